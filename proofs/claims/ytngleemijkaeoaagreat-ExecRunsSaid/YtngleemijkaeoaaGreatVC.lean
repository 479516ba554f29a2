import Derived.Test.YtngleemijkaeoaaGreatK9
import Derived.Test.YtngleemijkaeoaaGreatT
namespace Go.Proofs.YtngleemijkaeoaaGreat
open Go.Pk
set_option maxRecDepth 100000
set_option linter.unusedSimpArgs false
set_option linter.unusedVariables false
theorem zj7 {x:Value}:normD (.raw x)= .raw x:=rfl
structure LkD where
 k:Lk
 x:D
abbrev LkD.enc (m:LkD):List D:=[sD m.k.name,iD m.k.holder,iD m.k.token,m.x]
abbrev zde (l:List LkD):List D:=l.flatMap LkD.enc
def plain (k:Lk):LkD:=⟨k, .sl k.line.length (zat k.line)⟩
theorem zgY {l:List Lk}:zde (l.map plain)=zah l:=by
 induction l with
 |nil=>rfl
 |cons k l ih=>rw[List.map_cons,zde,List.flatMap_cons,zah,List.flatMap_cons];exact congrArg (_++·) ih
theorem zlY {l:List LkD} {i:Nat} (hi:i<l.length):(zde l).drop (i*4)=l[i].enc++(zde (l.drop (i+1))):=zcy _ 4 l i hi fun _=>rfl
theorem zbw {l:List LkD}:(zde l).length=l.length*4:=zb1 _ 4 (fun _=>rfl) l
theorem zhH {l:List LkD}:(zde l).take (l.length*4)=zde l:=zcw LkD.enc 4 (fun _=>rfl) l
theorem zhI {l:List LkD} {m:LkD}:zde (l++[m])=zde l++m.enc:=by simp[zde]
theorem zfG {l:List Lk} {m:Lk}:zah (l++[m])=zah l++m.enc:=by simp[zah]
theorem zge (l:List Lk) (hl:l.length<2^30) (hll:∀k∈l,k.line.length<2^30):CallOK Tryz.prog 137 [.f (al l.length (zah l))] (fun r o=>r=[.one (.own 4 l.length (zah l) false)]∧o=[]):=by
 refine CallOK.nil ?_
 refine zac zar mixed (T:=Ty) (n:=26) Tryz.func137 (c:=Tryz.f137.body.getD .skip) rfl Tryz.results137 Tryz.ntmps137 Tryz.call137 ?_
 simp only[Tryz.f137,Option.getD]
 repeat'(first|refine zq0 ?_|exact zd0|(refine zaa ?_ ?_<;>intro hb)|(refine And.intro ?_ ?_;exact zI)|(refine And.intro ?_ ?_<;>intro hg)|exact zC|fail)
 refine zao (τ:=Nat) (fun i=>⟨[al l.length (zah l),dd,dd, .one (.own ⟨3,1,1⟩ 0 i),ai i,dd,dd,dd,dd,dd,dd,dd,dd,dd,dd,dd,dd,dd,dd,dd,dd,dd,dd,dd,dd,dd],[(3,{next:=2,l:=[none,some {e:=1,var:=false,fz:=false,sz:=4,cells:=(zah (l.take i)).map C.d}]}),(5,⟨2,[]⟩),(16,⟨2,[]⟩),(19,⟨2,[]⟩),(23,⟨2,[]⟩),(24,⟨2,[]⟩)]⟩)
  (fun i=>i≤l.length) (fun _=>()) (fun i=>l.length - i) 0
  ((Gh.nil (i:=3) (s:=3) (sz:=4) rfl).trans (Gh.canon [3] [5,16,19,23,24] [] zK rfl rfl)) (Nat.zero_le _) ?_
 intro i hi0 hF K hK
 refine zw ?_
 refine zaa (fun hlt=> ?_) (fun hge=> ?_)
 ·have hi:i<l.length:=by simpa using hlt
  have hat:=zaJ hi
  have hw:=zan hi (by omega)
  have hlk:=hll _ (List.getElem_mem hi)
  have h1:(l[i].line.length*8≤2^47)=True:=eq_true (by omega)
  have htl:(l.take i).length=i:=by rw[List.length_take];omega
  have htk:=zay (l:=l.take i)
  rw[htl]at htk
  have hsn:zah (l.take i)++[sD l[i].name,iD l[i].holder,iD l[i].token, .sl l[i].line.length (zat l[i].line)]=zah (l.take (i+1)):=by
   rw[←List.take_append_getElem hi,zfG]
  repeat'(first|refine zq (I hat (I @zad (I @zaf (I h1 (I htl (I htk (I hsn zca))))))) ?_|exact zd (I hat (I @zad (I @zaf (I h1 (I htl (I htk (I hsn zca)))))))|(refine zaa ?_ ?_<;>intro hb)|(refine And.intro ?_ ?_;exact zI)|(refine And.intro ?_ ?_<;>intro hg)|exact zC|fail)
  exact hK _ (i+1) (Gh.canon [3] [] [] (zk hw) rfl rfl) hi rfl (by omega)
 ·have hi:i=l.length:=by
   have:¬(i:Int)<l.length:=by simpa using hge
   omega
  subst hi
  repeat'(first|refine zq @List.take_length.{0} ?_|exact zd @List.take_length.{0}|(refine zaa ?_ ?_<;>intro hb)|(refine And.intro ?_ ?_;exact zI)|(refine And.intro ?_ ?_<;>intro hg)|exact zC|fail)
  show zaY _ _∧True
  simp[zaY]
def zhJ (l:List Lk) (i:Nat) (x:D):List LkD:=l.zipIdx.map fun p=>if p.2=i then⟨p.1,x⟩else plain p.1
theorem zbb {l:List Lk} {i:Nat} {x:D}:(zhJ l i x).length=l.length:=by simp[zhJ]
theorem zdH {l:List Lk} {i j:Nat} {x:D} (hj:j<l.length):(zhJ l i x)[j]'(by rw[zbb];exact hj)=if j=i then⟨l[j],x⟩else plain l[j]:=by simp[zhJ]
theorem ztp {l:List Lk} {i:Nat} {x:D}:(zhJ l i x).map LkD.k=l:=by
 refine List.ext_getElem (by simp[zbb]) fun j h1 h2=> ?_
 rw[List.getElem_map,zdH h2]
 split<;>rfl
set_option maxHeartbeats 4000000 in
theorem zoR (l:List Lk) (hl:l.length<2^30) (hll:∀k∈l,k.line.length<2^30) (i0:Nat) (hi0:i0<l.length):
  zox Tryz.prog 137 [.f (al l.length (zah l))] (fun bs r o=>∃x,(∃a cap,x=Value.slice a l[i0].line.length cap)∧bs=[.val x]∧r=[.one (.own 4 l.length (zde (zhJ l i0 (.raw x))) false)]∧o=[[.own 1 l[i0].line.length (zat l[i0].line) false]]):=by
 refine zpv zar mixed (T:=Ty) (n:=26) Tryz.func137 (c:=Tryz.f137.body.getD .skip) (q:=1000) (n2:=l[i0].line.length) rfl Tryz.results137 Tryz.ntmps137 Tryz.call137 (R:=fun x=>_) ?_
 simp only[Tryz.f137,Option.getD]
 repeat'(first|refine zq0 ?_|exact zd0|(refine zaa ?_ ?_<;>intro hb)|(refine And.intro ?_ ?_;exact zI)|(refine And.intro ?_ ?_<;>intro hg)|exact zC|fail)
 refine zao (τ:=Nat×Option (Option Addr×Nat)) (fun t=>match t.2 with
  |none=>⟨[al l.length (zah l),dd,dd, .one (.own ⟨3,1,1⟩ 0 t.1),ai t.1,dd,dd,dd,dd,dd,dd,dd,dd,dd,dd,dd,dd,dd,dd,dd,dd,dd,dd,dd,dd,dd],[(3,{next:=2,l:=[none,some {e:=1,var:=false,fz:=false,sz:=4,cells:=(zah (l.take t.1)).map C.d}]}),(5,⟨2,[]⟩),(16,⟨2,[]⟩),(19,⟨2,[]⟩),(23,⟨2,[]⟩),(24,⟨2,[]⟩)]⟩
  |some x=>⟨[al l.length (zah l), .one (.lk ⟨1000,1,0⟩ l[i0].line.length (.slice x.1 l[i0].line.length x.2)),dd, .one (.own ⟨3,1,1⟩ 0 t.1),ai t.1,dd,dd,dd,dd,dd,dd,dd,dd,dd,dd,dd,dd,dd,dd,dd,dd,dd,dd,dd,dd,dd],[(3,{next:=2,l:=[none,some {e:=1,var:=false,fz:=false,sz:=4,cells:=(zde ((zhJ l i0 (.raw (.slice x.1 l[i0].line.length x.2))).take t.1)).map C.d}]}),(5,⟨2,[]⟩),(16,⟨2,[]⟩),(19,⟨2,[]⟩),(23,⟨2,[]⟩),(24,⟨2,[]⟩),(1000,⟨1,[none,some {e:=0,var:=false,fz:=false,sz:=1,cells:=(zat l[i0].line).map C.d}]⟩)]⟩)
  (fun t=>t.1≤l.length∧(t.1≤i0↔t.2=none)) (fun _=>()) (fun t=>l.length - t.1) (0,none)
  ((Gh.nil (i:=3) (s:=3) (sz:=4) rfl).trans (Gh.canon [3] [5,16,19,23,24] [] zK rfl rfl)) ⟨Nat.zero_le _,by simp⟩ ?_
 rintro⟨i,x⟩ ⟨hi1,hx⟩ hF K hK
 cases x with
 |none=>
  simp only at hi1 hx hK⊢
  have hx0:i≤i0:=hx.2 trivial
  refine zw ?_
  refine zaa (fun hlt=> ?_) (fun hge=> ?_)
  ·have hi:i<l.length:=by simpa using hlt
   have hat:=zaJ hi
   have hw:=zan hi (by omega)
   have hlk:=hll _ (List.getElem_mem hi)
   have h1:(l[i].line.length*8≤2^47)=True:=eq_true (by omega)
   have htl:(l.take i).length=i:=by rw[List.length_take];omega
   have htk:=zay (l:=l.take i)
   rw[htl]at htk
   have hsn:zah (l.take i)++[sD l[i].name,iD l[i].holder,iD l[i].token, .sl l[i].line.length (zat l[i].line)]=zah (l.take (i+1)):=by
    rw[←List.take_append_getElem hi,zfG]
   repeat'(first|(with_reducible first|refine zaZ 7 ?_|refine zaK 7 ?_|refine zaL 7 ?_)|refine zu (I hat (I @zad (I @zaf (I h1 (I htl (I htk (I hsn zca))))))) ?_|exact zd (I hat (I @zad (I @zaf (I h1 (I htl (I htk (I hsn zca)))))))|(with_reducible first|refine zab _ _ ?_)|(refine zaa ?_ ?_<;>intro hb)|(refine And.intro ?_ ?_;exact zI)|(refine And.intro ?_ ?_<;>intro hg)|exact zC|fail)
   by_cases hii:i=i0
   ·subst hii
    refine za3 (zgc _ _ (zsP zar mixed _ _ (zmr (s:=5) (k:=3) (k':=4) (e:=7) (j:=1) (q:=1000) rfl rfl rfl rfl rfl rfl (by decide) rfl rfl) ?_))
    intro x _
    have hsx:zah (l.take i)++[sD l[i].name,iD l[i].holder,iD l[i].token, .raw (.slice x.1 l[i].line.length x.2)]=zde ((zhJ l i (.raw (.slice x.1 l[i].line.length x.2))).take (i+1)):=by
     rw[←List.take_append_getElem (by rw[zbb];exact hi),zhI,zdH hi,if_pos rfl]
     congr 1
     rw[←zgY]
     congr 1
     refine List.ext_getElem (by simp[zbb]) fun j h1 h2=> ?_
     have hji:j<i:=by simp at h1;omega
     rw[List.getElem_map,List.getElem_take,List.getElem_take,zdH (by omega),if_neg (by omega)]
    repeat'(first|refine zq (I hat (I @zad (I @zaf (I h1 (I htl (I htk (I hsx (I @zj7 zca)))))))) ?_|exact zd (I hat (I @zad (I @zaf (I h1 (I htl (I htk (I hsx (I @zj7 zca))))))))|(refine zaa ?_ ?_<;>intro hb)|(refine And.intro ?_ ?_;exact zI)|(refine And.intro ?_ ?_<;>intro hg)|exact zC|fail)
    exact hK _ (i+1,some x) (Gh.canon [3,1000] [] [1000] (zk (I hw @zqK)) rfl rfl) ⟨hi,by simp⟩ trivial (by simp only;omega)
   ·refine za3 ?_
    repeat'(first|refine zq (I hat (I @zad (I @zaf (I h1 (I htl (I htk (I hsn zca))))))) ?_|exact zd (I hat (I @zad (I @zaf (I h1 (I htl (I htk (I hsn zca)))))))|(refine zaa ?_ ?_<;>intro hb)|(refine And.intro ?_ ?_;exact zI)|(refine And.intro ?_ ?_<;>intro hg)|exact zC|fail)
    exact hK _ (i+1,none) (Gh.canon [3] [] [] (zk hw) rfl rfl) ⟨hi,by simp;omega⟩ trivial (by simp only;omega)
  ·exfalso
   have:¬(i:Int)<l.length:=by simpa using hge
   omega
 |some x=>
  simp only at hi1 hx hK⊢
  have hx0:¬i≤i0:=fun h=>by cases hx.1 h
  refine zw ?_
  refine zaa (fun hlt=> ?_) (fun hge=> ?_)
  ·have hi:i<l.length:=by simpa using hlt
   have hat:=zaJ hi
   have hw:=zan hi (by omega)
   have hlk:=hll _ (List.getElem_mem hi)
   have h1:(l[i].line.length*8≤2^47)=True:=eq_true (by omega)
   have htl:((zhJ l i0 (.raw (.slice x.1 l[i0].line.length x.2))).take i).length=i:=by rw[List.length_take,zbb];omega
   have htk:=zhH (l:=(zhJ l i0 (.raw (.slice x.1 l[i0].line.length x.2))).take i)
   rw[htl]at htk
   have hsn:zde ((zhJ l i0 (.raw (.slice x.1 l[i0].line.length x.2))).take i)++[sD l[i].name,iD l[i].holder,iD l[i].token, .sl l[i].line.length (zat l[i].line)]=zde ((zhJ l i0 (.raw (.slice x.1 l[i0].line.length x.2))).take (i+1)):=by
    rw[←List.take_append_getElem (by rw[zbb];exact hi),zhI,zdH hi,if_neg (by omega)];rfl
   repeat'(first|refine zq (I hat (I @zad (I @zaf (I @zbw (I h1 (I htl (I htk (I hsn zca)))))))) ?_|exact zd (I hat (I @zad (I @zaf (I @zbw (I h1 (I htl (I htk (I hsn zca))))))))|(refine zaa ?_ ?_<;>intro hb)|(refine And.intro ?_ ?_;exact zI)|(refine And.intro ?_ ?_<;>intro hg)|exact zC|fail)
   exact hK _ (i+1,some x) (Gh.canon [3,1000] [] [1000] (zk (I hw @zqK)) rfl rfl) ⟨hi,by simp;omega⟩ trivial (by simp only;omega)
  ·have hi:i=l.length:=by
    have:¬(i:Int)<l.length:=by simpa using hge
    omega
   subst hi
   repeat'(first|refine zq0 ?_|exact zd0|(refine zaa ?_ ?_<;>intro hb)|(refine And.intro ?_ ?_;exact zI)|(refine And.intro ?_ ?_<;>intro hg)|exact zC|fail)
   refine⟨1, .slice x.1 l[i0].line.length x.2,rfl,⟨_,_,rfl⟩, ?_,rfl⟩
   rw[List.take_of_length_le (by rw[zbb];exact Nat.le_refl _)]
theorem zoL (l:List LkD) (hl:l.length<2^62) (s:ByteArray):CallOK Tryz.prog 140 [.f (al l.length (zde l)), .f (ast s)] (fun r o=>r=[ri (zcn (isL s) (l.map LkD.k) 0)]∧o=[]):=by
 refine zac zar mixed (T:=Ty) (n:=20) Tryz.func140 (c:=Tryz.f140.body.getD .skip) rfl Tryz.results140 Tryz.ntmps140 Tryz.call140 ?_
 simp only[Tryz.f140,Option.getD]
 repeat'(first|refine zq0 ?_|exact zd0|(refine zaa ?_ ?_<;>intro hb)|(refine And.intro ?_ ?_;exact zI)|(refine And.intro ?_ ?_<;>intro hg)|exact zC|fail)
 refine zao (τ:=Nat) (fun i=>⟨[al l.length (zde l),ast s,dd,dd,dd,ai i,dd,dd,dd,dd,dd,dd,dd,dd,dd,dd,dd,dd,dd,dd],[]⟩)
  (fun i=>i≤l.length) (fun i=>zcn (isL s) ((l.drop i).map LkD.k) i) (fun i=>l.length - i) 0
  (Gh.canon [] [] [] zK rfl rfl) (Nat.zero_le _) ?_
 intro i hi0 hF K hK
 rw[List.drop_zero]at hF
 refine zw ?_
 refine zaa (fun hlt=> ?_) (fun hge=> ?_)
 ·have hi:i<l.length:=by simpa using hlt
  have hat:=zlY hi
  have hw:=zan hi hl
  have hq:zcn (isL s) ((l.drop i).map LkD.k) i=if(l[i].k.name.toList==s.toList)=true then(i:Int)else zcn (isL s) ((l.drop (i+1)).map LkD.k) ((i+1:Nat):Int):=by
   rw[List.drop_eq_getElem_cons hi,List.map_cons,zcn];rfl
  rw[hq]at hF
  repeat'(first|refine zq (I hat (I @zbw zca)) ?_|exact zd (I hat (I @zbw zca))|(refine zaa ?_ ?_<;>intro hb)|(refine And.intro ?_ ?_;exact zI)|(refine And.intro ?_ ?_<;>intro hg)|exact zC|fail)
  ·rw[if_pos hb]at hF
   have hF:(i:Int)=zcn (isL s) (l.map LkD.k) 0:=hF
   rw[←hF]
  ·rw[if_neg (by rw[hb];simp)]at hq
   exact hK _ (i+1) (Gh.canon [] [] [] (zk hw) rfl rfl) hi hq.symm (by omega)
 ·have hi:i=l.length:=by
   have:¬(i:Int)<l.length:=by simpa using hge
   omega
  rw[hi,List.drop_length]at hF
  have hF:(-1:Int)=zcn (isL s) (l.map LkD.k) 0:=hF
  rw[←hF]
  repeat'(first|refine zq0 ?_|exact zd0|(refine zaa ?_ ?_<;>intro hb)|(refine And.intro ?_ ?_;exact zI)|(refine And.intro ?_ ?_<;>intro hg)|exact zC|fail)
theorem zfj {l:List Lk} (hs:SL l) (s:ByteArray):zcn (isL s) l 0=match zcc l s with|none=> -1|some _=>(za9 l s:Int):=by
 rcases zdA (isL s) l 0 with⟨h1,h2⟩|⟨k,hk,h2,h3,h4⟩
 ·have:zcc l s=none:=List.find?_eq_none.2 fun x hx=>by rw[h1 x hx];simp
  rw[this];exact h2
 ·cases hf:zcc l s with
  |none=>exact absurd h3 (List.find?_eq_none.1 hf _ (List.getElem_mem hk))
  |some x=>
   obtain⟨⟨hp,he⟩,hx⟩:=zcd hs hf
   have hkp:k=za9 l s:=by
    have hne:∀{i j:Nat} (hi:i<l.length) (hj:j<l.length),i<j→isL s l[i]=true→isL s l[j]=true→False:=fun hi hj hij h1 h2=>by
     have:=List.pairwise_iff_getElem.1 hs _ _ hi hj hij
     simp only[isL,beq_iff_eq]at h1 h2
     simp only[zdh,h1,h2,zgp]at this
     cases this
    rcases Nat.lt_trichotomy k (za9 l s)with h|h|h
    ·exact(hne hk hp h h3 (by rw[he];exact hx)).elim
    ·exact h
    ·exact(hne hp hk h (by rw[he];exact hx) h3).elim
   have h2':zcn (isL s) l 0=((0+k:Nat):Int):=h2
   rw[h2']
   show((0+k:Nat):Int)=(za9 l s:Int)
   omega
theorem zmS {l:List Lk} {name:ByteArray} {c t:Int} {w:Bool} (hf:zcc l name=none):zaH l name c t w=if decide ((l.length:Int)≥4)=true then([],0,5)else(l.take (za9 l name)++⟨name,c,t+1,[]⟩::l.drop (za9 l name),0,0):=by unfold zaH;rw[hf]
theorem zj6 {α:Type} {l:List α} {j:Nat} {y:α} (hj:j≤l.length):(l.take j++y::l.drop j).length=l.length+1:=by
 rw[List.length_append,List.length_take,List.length_cons,List.length_drop];omega
theorem zoM {α:Type} {l:List α} {j i:Nat} {y:α} (hj:j≤l.length) (hi:i<j):(l.take j++y::l.drop j)[i]'(by rw[zj6 hj];omega)=l[i]:=by
 rw[List.getElem_append_left (by rw[List.length_take];omega),List.getElem_take]
theorem zmT {α:Type} {l:List α} {j:Nat} {y:α} (hj:j≤l.length) (h0:0<j):(l.take j++y::l.drop j).set j (l[j - 1]'(by omega))=l.take (j - 1)++(l[j - 1]'(by omega))::l.drop (j - 1):=by
 rw[List.set_append_right _ _ (by rw[List.length_take];omega)]
 rw[show j - (l.take j).length=0 by rw[List.length_take];omega,List.set_cons_zero]
 rw[show l.take j=l.take (j - 1)++[l[j - 1]'(by omega)] by
  rw[List.take_append_getElem (by omega),show j - 1+1=j by omega]]
 rw[List.append_assoc]
 congr 1
 rw[List.drop_eq_getElem_cons (show j - 1<l.length by omega),show j - 1+1=j by omega]
 rfl
theorem zoN {α:Type} {l:List α} {j:Nat} {y x:α} (hj:j≤l.length):(l.take j++y::l.drop j).set j x=l.take j++x::l.drop j:=by
 rw[List.set_append_right _ _ (by rw[List.length_take];omega),show j - (l.take j).length=0 by rw[List.length_take];omega,List.set_cons_zero]
abbrev zvY:Lk:=⟨.empty,0,0,[]⟩
set_option maxHeartbeats 4000000 in
theorem zoO (l:List Lk) (hs:SL l) (hl:l.length<2^30) (hll:∀k∈l,k.line.length<2^30) (name:ByteArray) (c t:Int) (ht:0≤t∧t<2^62) (w:Bool) (hf:zcc l name=none):
  CallOK Tryz.prog 103 [.f (al l.length (zah l)), .f (ast name), .f (ai c), .f (ai t), .f (ab w)]
  (fun r o=>r=[.one (.own 4 (zaH l name c t w).1.length (zah (zaH l name c t w).1) false),ri (zaH l name c t w).2.1,ri (zaH l name c t w).2.2]∧o=[]):=by
 refine CallOK.nil ?_
 refine zac zar mixed (T:=Ty) (n:=122) Tryz.func103 (c:=Tryz.f103.body.getD .skip) rfl Tryz.results103 Tryz.ntmps103 Tryz.call103 ?_
 simp only[Tryz.f103,Option.getD]
 have hco:=zge l hl hll
 have hfi:=zgS l (by omega) name
 rw[zfj hs,hf]at hfi
 simp only at hfi
 rw[zmS hf]
 have hwt:IntKind.i64.wrap (t+1)=t+1:=wrap64 (by omega) (by omega)
 have hm1:decide ((-1:Int)<0)=true:=rfl
 cases h4:decide ((l.length:Int)≥4)
 ·rw[if_neg (by simp)]
  have hlt4:l.length<4:=by simp at h4;omega
  have hp:=zb9 (p:=fun x:Lk=>zdh x.name name) (l:=l)
  repeat'(first|refine zq (I hm1 (I h4 (I @zad @zay))) ?_|exact zd (I hm1 (I h4 (I @zad @zay)))|refine zc (hco) ?_|refine zg (hco) ?_|refine zc (hfi) ?_|refine zg (hfi) ?_|(refine zaa ?_ ?_<;>intro hb)|(refine And.intro ?_ ?_;exact zI)|(refine And.intro ?_ ?_<;>intro hg)|exact zC|fail)
  refine zrC (τ:=Unit) (fun _=>⟨[dd,ast name,ai c,ai t,dd,dd,dd,dd,dd,dd,dd,dd,dd, .one (.own ⟨13,1,1⟩ 0 l.length),dd,ai (za9 l name:Int),dd,dd,dd,dd,dd,dd,dd,dd,dd,dd,dd,dd,dd,dd,dd,dd,dd,dd,dd,dd,dd,dd,dd,dd,dd,dd,dd,dd,dd,dd,dd,dd,dd,dd,dd,dd,dd,dd,dd,dd,dd,dd,dd,dd,dd,dd,dd,dd,dd,dd,dd,dd,dd,dd,dd,dd,dd,dd,dd,dd,dd,dd,dd,dd,dd,dd,dd,dd,dd,dd,dd,dd,dd,dd,dd,dd,dd,dd,dd,dd,dd,dd,dd,dd,dd,dd,dd,dd,dd,dd,dd,dd,dd,dd,dd,dd,dd,dd,dd,dd,dd,dd,dd,dd,dd,dd],[(20,⟨2,[]⟩),(13,{next:=2,l:=[none,some {e:=1,var:=false,fz:=false,sz:=4,cells:=(zah l).map C.d}]})]⟩) (fun _=>True) (fun _ _=> ?_) (fun Kx hKx=> ?_)
  ·have hlz:zah l++[D.v (.string .empty),D.v (.int .i64 0),D.v (.int .i64 0), .sl 0 []]=zah (l.take l.length++zvY::l.drop l.length):=by rw[List.take_length,List.drop_length,zfG];rfl
   have hw1:IntKind.i64.wrap (((l.length+1:Nat):Int) - 1)=(l.length:Int):=by rw[wrap64 (by omega) (by omega)];omega
   have hbig:((l.length+1)*48≤2^47)=True:=eq_true (by omega)
   repeat'(first|refine zq (I @zad (I @zay (I hlz (I hw1 hbig)))) ?_|exact zd (I @zad (I @zay (I hlz (I hw1 hbig))))|(refine zaa ?_ ?_<;>intro hb)|(refine And.intro ?_ ?_;exact zI)|(refine And.intro ?_ ?_<;>intro hg)|exact zC|fail)
   refine zao (τ:=Nat×Lk) (fun q=>⟨[dd,ast name,ai c,ai t,dd,dd,dd,dd,dd,dd,dd,dd,dd, .one (.own ⟨13,1,1⟩ 0 (l.length+1)),dd,ai (za9 l name:Int),ai q.1,dd,dd,dd,dd,dd,dd,dd,dd,dd,dd,dd,dd,dd,dd,dd,dd,dd,dd,dd,dd,dd,dd,dd,dd,dd,dd,dd,dd,dd,dd,dd,dd,dd,dd,dd,dd,dd,dd,dd,dd,dd,dd,dd,dd,dd,dd,dd,dd,dd,dd,dd,dd,dd,dd,dd,dd,dd,dd,dd,dd,dd,dd,dd,dd,dd,dd,dd,dd,dd,dd,dd,dd,dd,dd,dd,dd,dd,dd,dd,dd,dd,dd,dd,dd,dd,dd,dd,dd,dd,dd,dd,dd,dd,dd,dd,dd,dd,dd,dd,dd,dd,dd,dd,dd,dd],[(20,⟨2,[]⟩),(13,{next:=2,l:=[none,some {e:=1,var:=false,fz:=false,sz:=4,cells:=(zah (l.take q.1++q.2::l.drop q.1)).map C.d}]}),(46,⟨2,[]⟩)]⟩)
    (fun q=>za9 l name≤q.1∧q.1≤l.length) (fun _=>()) (fun q=>q.1) (l.length,zvY) (Gh.canon [13] [] [] zK rfl rfl) ⟨hp,Nat.le_refl _⟩ ?_
   rintro⟨j,y⟩ ⟨hj1,hj2⟩ hF K hK
   simp only at hj1 hj2 hK⊢
   have hlen:=zj6 (l:=l) (j:=j) (y:=y) hj2
   by_cases hjp:za9 l name<j
   ·have hd:decide ((j:Int)>(za9 l name:Int))=true:=by simpa using hjp
    have hw:IntKind.i64.wrap ((j:Int) - 1)=((j - 1:Nat):Int):=by rw[wrap64 (by omega) (by omega)];omega
    have hat:=zaJ (l:=l.take j++y::l.drop j) (i:=j - 1) (by omega)
    rw[zoM hj2 (by omega)]at hat
    have hset:=zd9 Lk.enc 4 (fun _=>rfl) (l:=l.take j++y::l.drop j) (i:=j) (by omega) (l[j - 1]'(by omega))
    rw[zmT hj2 (by omega)]at hset
    simp only[fillAt,List.map_cons,List.map_nil]at hset
    repeat'(first|(with_reducible first|refine zab _ _ ?_|refine zaP ?_|refine zaQ ?_)|rw[zak]|simp only[hd,hw,hat,List.cons_append,List.nil_append,←List.map_drop,List.map_cons,zad,hlen,fillAt,hset,zY,Int.reduceEq,Int.reduceBEq,Int.reduceBNe,Nat.reduceSub,Nat.reduceEqDiff,Nat.reduceAdd,Nat.reduceMul,Nat.reduceLeDiff,Nat.reduceLT,Nat.reduceBEq,reduceCtorEq]|refine zam ?_|refine zaa (fun hb=> ?_) (fun hb=> ?_)|(refine And.intro ?_ ?_;exact zI)|refine And.intro (fun hg=> ?_) (fun hg=> ?_)|exact zC|fail)
    exact hK _ (j - 1,l[j - 1]'(by omega)) (Gh.canon [13] [] [] zK rfl rfl) ⟨by omega,by omega⟩ trivial (by simp only;omega)
   ·have hjj:j=za9 l name:=by omega
    have hd:decide ((j:Int)>(za9 l name:Int))=false:=by simp;omega
    have hset:=zd9 Lk.enc 4 (fun _=>rfl) (l:=l.take j++y::l.drop j) (i:=j) (by omega) ⟨name,c,t+1,[]⟩
    rw[zoN hj2]at hset
    simp only[fillAt,List.map_cons,List.map_nil,List.length_nil,List.flatMap_nil]at hset
    subst hjj
    repeat'(first|(with_reducible first|refine zab _ _ ?_|refine zaP ?_|refine zaQ ?_)|rw[zak]|simp only[hd,hwt,zad,hlen,fillAt,hset,zY,Int.reduceEq,Int.reduceBEq,Int.reduceBNe,Nat.reduceSub,Nat.reduceEqDiff,Nat.reduceAdd,Nat.reduceMul,Nat.reduceLeDiff,Nat.reduceLT,Nat.reduceBEq,reduceCtorEq]|refine zam ?_|refine zaa (fun hb=> ?_) (fun hb=> ?_)|(refine And.intro ?_ ?_;exact zI)|refine And.intro (fun hg=> ?_) (fun hg=> ?_)|exact zC|fail)
    have hp':za9 l name≤l.length:=hp
    simp[zeW,zaY]
    omega
  ·refine zao (τ:=Nat) (fun i=>⟨[dd,ast name,ai c,ai t,dd,dd,dd,dd,dd,dd,dd,dd,dd, .one (.own ⟨13,1,1⟩ 0 l.length),dd,ai i,dd,dd,dd,dd,dd,dd,dd,dd,dd,dd,dd,dd,dd,dd,dd,dd,dd,dd,dd,dd,dd,dd,dd,dd,dd,dd,dd,dd,dd,dd,dd,dd,dd,dd,dd,dd,dd,dd,dd,dd,dd,dd,dd,dd,dd,dd,dd,dd,dd,dd,dd,dd,dd,dd,dd,dd,dd,dd,dd,dd,dd,dd,dd,dd,dd,dd,dd,dd,dd,dd,dd,dd,dd,dd,dd,dd,dd,dd,dd,dd,dd,dd,dd,dd,dd,dd,dd,dd,dd,dd,dd,dd,dd,dd,dd,dd,dd,dd,dd,dd,dd,dd,dd,dd,dd,dd],[(20,⟨2,[]⟩),(13,{next:=2,l:=[none,some {e:=1,var:=false,fz:=false,sz:=4,cells:=(zah l).map C.d}]})]⟩)
    (fun i=>i≤za9 l name) (fun _=>()) (fun i=>l.length - i) 0 (Gh.canon [13] [] [] zK rfl rfl) (Nat.zero_le _) ?_
   intro i hi0 hF K hK
   by_cases hi:i<l.length
   ·have hat:=zaJ hi
    have hd:decide ((i:Int)<(l.length:Int))=true:=by simpa using hi
    have hw:=zan hi (by omega)
    repeat'(first|refine zq (I hd (I hat (I @zmd (I @List.map_cons.{0,0} (I @zad zca))))) ?_|exact zd (I hd (I hat (I @zmd (I @List.map_cons.{0,0} (I @zad zca)))))|(refine zaa ?_ ?_<;>intro hb)|(refine And.intro ?_ ?_;exact zI)|(refine And.intro ?_ ?_<;>intro hg)|exact zC|fail)
    ·have hip:i<za9 l name:=Nat.lt_of_not_le fun h=>by
      have:Go.Op.bytesLess l[i].name.toList name.toList=false:=zft hi (zhY hs name) h
      rw[hb]at this
      cases this
     exact hK _ (i+1) (Gh.canon [13] [] [] (zk hw) rfl rfl) hip rfl (by omega)
    ·have hip:i=za9 l name:=Nat.le_antisymm hi0 (Nat.le_of_not_lt fun h=>by
      have:Go.Op.bytesLess l[i].name.toList name.toList=true:=zfs hi h
      rw[hb]at this
      cases this)
     subst hip
     exact hKx _ () (Gh.canon [13] [] [] zK rfl rfl) trivial
   ·have hd:decide ((i:Int)<(l.length:Int))=false:=by simpa using hi
    have hdr:(zah l).drop (i*4)=[]:=List.drop_eq_nil_of_le (by rw[zad];omega)
    repeat'(first|refine zq (I hd (I hdr (I @zmd (I @List.map_nil.{0,0} @zad)))) ?_|exact zd (I hd (I hdr (I @zmd (I @List.map_nil.{0,0} @zad))))|(refine zaa ?_ ?_<;>intro hb)|(refine And.intro ?_ ?_;exact zI)|(refine And.intro ?_ ?_<;>intro hg)|exact zC|fail)
    have hip:i=za9 l name:=by have:za9 l name≤l.length:=hp;omega
    subst hip
    exact hKx _ () (Gh.canon [13] [] [] zK rfl rfl) trivial
 ·rw[if_pos rfl]
  repeat'(first|refine zq (I hm1 (I h4 (I @zad @zay))) ?_|exact zd (I hm1 (I h4 (I @zad @zay)))|refine zc (hco) ?_|refine zg (hco) ?_|refine zc (hfi) ?_|refine zg (hfi) ?_|(refine zaa ?_ ?_<;>intro hb)|(refine And.intro ?_ ?_;exact zI)|(refine And.intro ?_ ?_<;>intro hg)|exact zC|fail)
  simp[zeW,zaY]
theorem zhG {l:List Lk} {name:ByteArray} {c t:Int} {w:Bool} {k:Lk} (hf:zcc l name=some k) (hc:isClient c=true):zaH l name c t w=if(k.holder==c)=true then([],0,7)else if(!w)=true then([],0,8)else
  if hasI k.line c=true then(l,zgn k.line c,10)else if decide ((k.line.length:Int)≥3)=true then([],0,5)else(l.set (za9 l name) ⟨k.name,k.holder,k.token,k.line++[c]⟩,k.line.length,10):=by
 unfold zaH
 rw[hf]
 simp only
 split
 ·rfl
 ·split
  ·rfl
  ·split
   ·rfl
   ·rename_i h
    have hj:zc7 k.line c=if decide ((k.line.length:Int)≥3)=true then([],0,5)else(k.line++[c],(k.line.length:Int),0):=by
     unfold zc7
     rw[if_neg (by rw[hc];simp),if_neg h]
    rw[hj]
    cases decide ((k.line.length:Int)≥3)
    ·rfl
    ·rfl
set_option maxHeartbeats 4000000 in
theorem zoP (l:List Lk) (hs:SL l) (hl:l.length<2^30) (hll:∀k∈l,k.line.length<2^30) (name:ByteArray) (c t:Int) (hc:isClient c=true) (w:Bool) (k:Lk) (hf:zcc l name=some k)
  (hx:(k.holder==c)=true∨w=false∨hasI k.line c=true∨decide ((k.line.length:Int)≥3)=true):
  CallOK Tryz.prog 103 [.f (al l.length (zah l)), .f (ast name), .f (ai c), .f (ai t), .f (ab w)]
  (fun r o=>r=[.one (.own 4 (zaH l name c t w).1.length (zah (zaH l name c t w).1) false),ri (zaH l name c t w).2.1,ri (zaH l name c t w).2.2]∧o=[]):=by
 refine CallOK.nil ?_
 refine zac zar mixed (T:=Ty) (n:=122) Tryz.func103 (c:=Tryz.f103.body.getD .skip) rfl Tryz.results103 Tryz.ntmps103 Tryz.call103 ?_
 simp only[Tryz.f103,Option.getD]
 have hco:=zge l hl hll
 have hfi:=zgS l (by omega) name
 rw[zfj hs,hf]at hfi
 simp only at hfi
 have htk:=zhG (t:=t) (w:=w) hf hc
 generalize zaH l name c t w=R at htk⊢
 obtain⟨⟨hi,he⟩,hn⟩:=zcd hs hf
 have hat:=zaJ hi
 rw[he]at hat
 have hkl:=hll k (he▸List.getElem_mem hi)
 have hah:=zgW k.line (by omega) c
 have hm1:decide ((za9 l name:Int)<0)=false:=by simp
 have hat1:(zah l).drop (za9 l name*4+1)=iD k.holder::iD k.token:: .sl k.line.length (zat k.line)::zah (l.drop (za9 l name+1)):=by rw[←List.drop_drop,hat];rfl
 have hat3:(zah l).drop (za9 l name*4+3)= .sl k.line.length (zat k.line)::zah (l.drop (za9 l name+1)):=by rw[←List.drop_drop,hat];rfl
 cases h1:(k.holder==c)
 ·cases w
  ·repeat'(first|refine zq (I hm1 (I h1 (I hat1 (I @zmd (I @List.map_cons.{0,0} (I @List.drop_succ_cons.{0} (I @List.drop_zero.{0} (I @zad (I @zay zca))))))))) ?_|exact zd (I hm1 (I h1 (I hat1 (I @zmd (I @List.map_cons.{0,0} (I @List.drop_succ_cons.{0} (I @List.drop_zero.{0} (I @zad (I @zay zca)))))))))|refine zc (hco) ?_|refine zg (hco) ?_|refine zc (hfi) ?_|refine zg (hfi) ?_|(refine zaa ?_ ?_<;>intro hb)|(refine And.intro ?_ ?_;exact zI)|(refine And.intro ?_ ?_<;>intro hg)|exact zC|fail)
   rw[if_neg (by rw[h1];simp),if_pos (show(!false)=true from rfl)]at htk
   rw[htk];simp[zeW,zaY]
  ·rw[if_neg (by rw[h1];simp),if_neg (by simp)]at htk
   cases h3:hasI k.line c
   ·rw[if_neg (by rw[h3];simp)]at htk
    have h4:decide ((k.line.length:Int)≥3)=true:=by rcases hx with h|h|h|h<;>simp_all
    rw[if_pos h4]at htk
    rw[h3]at hah
    repeat'(first|refine zq (I hm1 (I h1 (I h3 (I h4 (I hat1 (I hat3 (I @zmd (I @List.map_cons.{0,0} (I @List.drop_succ_cons.{0} (I @List.drop_zero.{0} (I @zad (I @zay zca)))))))))))) ?_|exact zd (I hm1 (I h1 (I h3 (I h4 (I hat1 (I hat3 (I @zmd (I @List.map_cons.{0,0} (I @List.drop_succ_cons.{0} (I @List.drop_zero.{0} (I @zad (I @zay zca))))))))))))|refine zc (hco) ?_|refine zg (hco) ?_|refine zc (hfi) ?_|refine zg (hfi) ?_|refine zc (hah) ?_|refine zg (hah) ?_|(refine zaa ?_ ?_<;>intro hb)|(refine And.intro ?_ ?_;exact zI)|(refine And.intro ?_ ?_<;>intro hg)|exact zC|fail)
    rw[htk];simp[zeW,zaY]
   ·rw[if_pos h3]at htk
    rw[h3]at hah
    repeat'(first|refine zq (I hm1 (I h1 (I h3 (I hat1 (I hat3 (I @zmd (I @List.map_cons.{0,0} (I @List.drop_succ_cons.{0} (I @List.drop_zero.{0} (I @zad (I @zay zca))))))))))) ?_|exact zd (I hm1 (I h1 (I h3 (I hat1 (I hat3 (I @zmd (I @List.map_cons.{0,0} (I @List.drop_succ_cons.{0} (I @List.drop_zero.{0} (I @zad (I @zay zca)))))))))))|refine zc (hco) ?_|refine zg (hco) ?_|refine zc (hfi) ?_|refine zg (hfi) ?_|refine zc (hah) ?_|refine zg (hah) ?_|(refine zaa ?_ ?_<;>intro hb)|(refine And.intro ?_ ?_;exact zI)|(refine And.intro ?_ ?_<;>intro hg)|exact zC|fail)
    rw[htk];simp[zeW,zaY]
 ·repeat'(first|refine zq (I hm1 (I h1 (I hat1 (I @zmd (I @List.map_cons.{0,0} (I @List.drop_succ_cons.{0} (I @List.drop_zero.{0} (I @zad (I @zay zca))))))))) ?_|exact zd (I hm1 (I h1 (I hat1 (I @zmd (I @List.map_cons.{0,0} (I @List.drop_succ_cons.{0} (I @List.drop_zero.{0} (I @zad (I @zay zca)))))))))|refine zc (hco) ?_|refine zg (hco) ?_|refine zc (hfi) ?_|refine zg (hfi) ?_|(refine zaa ?_ ?_<;>intro hb)|(refine And.intro ?_ ?_;exact zI)|(refine And.intro ?_ ?_<;>intro hg)|exact zC|fail)
  rw[if_pos h1]at htk
  rw[htk];simp[zeW,zaY]
set_option maxHeartbeats 4000000 in
theorem zoQ (l:List Lk) (hs:SL l) (hl:l.length<2^30) (hll:∀k∈l,k.line.length<2^30) (name:ByteArray) (c t:Int) (hc:isClient c=true) (w:Bool) (k:Lk) (hf:zcc l name=some k)
  (h1:(k.holder==c)=false) (hw:w=true) (h3:hasI k.line c=false) (h4:decide ((k.line.length:Int)≥3)=false):
  CallOK Tryz.prog 103 [.f (al l.length (zah l)), .f (ast name), .f (ai c), .f (ai t), .f (ab w)]
  (fun r o=>r=[.one (.own 4 (zaH l name c t w).1.length (zah (zaH l name c t w).1) false),ri (zaH l name c t w).2.1,ri (zaH l name c t w).2.2]∧o=[]):=by
 refine CallOK.nil ?_
 refine zac zar mixed (T:=Ty) (n:=122) Tryz.func103 (c:=Tryz.f103.body.getD .skip) rfl Tryz.results103 Tryz.ntmps103 Tryz.call103 ?_
 simp only[Tryz.f103,Option.getD]
 have htk:=zhG (t:=t) (w:=w) hf hc
 subst hw
 rw[if_neg (by rw[h1];simp),if_neg (by simp),if_neg (by rw[h3];simp),if_neg (by rw[h4];simp)]at htk
 rw[htk]
 obtain⟨⟨hi,he⟩,hn⟩:=zcd hs hf
 have hco:=zoR l hl hll (za9 l name) hi
 rw[he]at hco
 have hkl:=hll k (he▸List.getElem_mem hi)
 have hah:=zgW k.line (by omega) c
 rw[h3]at hah
 have hm1:decide ((za9 l name:Int)<0)=false:=by simp
 repeat'(first|(with_reducible first|refine zaZ 1 ?_|refine zaK 1 ?_|refine zaL 1 ?_)|refine zu0 ?_|exact zd0|(with_reducible first|refine zab _ _ ?_)|(refine zaa ?_ ?_<;>intro hb)|(refine And.intro ?_ ?_;exact zI)|(refine And.intro ?_ ?_<;>intro hg)|exact zC|fail)
 refine za3 (zgc _ _ (znD zar mixed 1 (q:=5) (v1:=[al l.length (zah l),ast name,ai c,ai t,ab true,dd,dd,dd,dd,dd, .one (.d (.v (.slice none 0 0))),ai 0,ai 0,dd,dd,dd,dd,dd,dd,al l.length (zah l),dd,dd,dd,dd,dd,dd,dd,dd,dd,dd,dd,dd,dd,dd,dd,dd,dd,dd,dd,dd,dd,dd,dd,dd,dd,dd,dd,dd,dd,dd,dd,dd,dd,dd,dd,dd,dd,dd,dd,dd,dd,dd,dd,dd,dd,dd,dd,dd,dd,dd,dd,dd,dd,dd,dd,dd,dd,dd,dd,dd,dd,dd,dd,dd,dd,dd,dd,dd,dd,dd,dd,dd,dd,dd,dd,dd,dd,dd,dd,dd,dd,dd,dd,dd,dd,dd,dd,dd,dd,dd,dd,dd,dd,dd,dd,dd,dd,dd,dd,dd,dd,dd]) (r1:=[]) rfl rfl rfl rfl (fun K hK=> ?_) ?_ ?_ rfl hco rfl (by decide) ?_))
 ·repeat'(first|refine zq (I @List.take_succ_cons.{0} @List.take_zero.{0}) ?_|exact zd (I @List.take_succ_cons.{0} @List.take_zero.{0})|(refine zaa ?_ ?_<;>intro hb)|(refine And.intro ?_ ?_;exact zI)|(refine And.intro ?_ ?_<;>intro hg)|exact zC|fail)
  exact hK
 ·exact trivial
 ·exact⟨trivial,trivial⟩
 rintro x ⟨a,cap,rfl⟩
 have hfi:=zoL (zhJ l (za9 l name) (.raw (.slice a k.line.length cap))) (by rw[zbb];omega) name
 rw[ztp,zfj hs,hf,zbb]at hfi
 simp only at hfi
 have hil:za9 l name<(zhJ l (za9 l name) (.raw (.slice a k.line.length cap))).length:=by rw[zbb];exact hi
 have hat:=zlY hil
 rw[zdH hi,if_pos rfl,he]at hat
 have htk:=zhH (l:=zhJ l (za9 l name) (.raw (.slice a k.line.length cap)))
 rw[zbb]at htk
 have hat1:(zde (zhJ l (za9 l name) (.raw (.slice a k.line.length cap)))).drop (za9 l name*4+1)=iD k.holder::iD k.token:: .raw (.slice a k.line.length cap)::zde ((zhJ l (za9 l name) (.raw (.slice a k.line.length cap))).drop (za9 l name+1)):=by rw[←List.drop_drop,hat];rfl
 have hat3:(zde (zhJ l (za9 l name) (.raw (.slice a k.line.length cap)))).drop (za9 l name*4+3)= .raw (.slice a k.line.length cap)::zde ((zhJ l (za9 l name) (.raw (.slice a k.line.length cap))).drop (za9 l name+1)):=by rw[←List.drop_drop,hat];rfl
 repeat'(first|(with_reducible first|refine zaZ 20 ?_|refine zaK 20 ?_|refine zaL 20 ?_)|refine zu (I hm1 (I h1 (I @List.drop_succ_cons.{0} (I @List.drop_zero.{0} (I hat1 (I htk (I @zmd (I @List.map_cons.{0,0} (I @zbw @zbb))))))))) ?_|exact zd (I hm1 (I h1 (I @List.drop_succ_cons.{0} (I @List.drop_zero.{0} (I hat1 (I htk (I @zmd (I @List.map_cons.{0,0} (I @zbw @zbb)))))))))|(with_reducible first|refine zab _ _ ?_)|refine zc (hfi) ?_|refine zg (hfi) ?_|(refine zaa ?_ ?_<;>intro hb)|(refine And.intro ?_ ?_;exact zI)|(refine And.intro ?_ ?_<;>intro hg)|exact zC|fail)
 refine za3 (zgc _ _ (zlo zar mixed 5 ?_))
 repeat'(first|refine zq (I @List.take_succ_cons.{0} (I @List.take_zero.{0} (I hat3 (I @zmd (I @List.map_cons.{0,0} (I @zbw @zbb)))))) ?_|exact zd (I @List.take_succ_cons.{0} (I @List.take_zero.{0} (I hat3 (I @zmd (I @List.map_cons.{0,0} (I @zbw @zbb))))))|(refine zaa ?_ ?_<;>intro hb)|(refine And.intro ?_ ?_;exact zI)|(refine And.intro ?_ ?_<;>intro hg)|exact zC|fail)
 refine⟨_,Gh.view (i:=87) (j:=5) rfl rfl, ?_⟩
 repeat'(first|(with_reducible first|refine zaZ 26 ?_|refine zaK 26 ?_|refine zaL 26 ?_)|refine zu (I @List.drop_succ_cons.{0} (I @List.drop_zero.{0} (I h4 (I hat3 (I @zmd (I @List.map_cons.{0,0} (I @zbw @zbb))))))) ?_|exact zd (I @List.drop_succ_cons.{0} (I @List.drop_zero.{0} (I h4 (I hat3 (I @zmd (I @List.map_cons.{0,0} (I @zbw @zbb)))))))|(with_reducible first|refine zab _ _ ?_)|refine zc (hah) ?_|refine zg (hah) ?_|(refine zaa ?_ ?_<;>intro hb)|(refine And.intro ?_ ?_;exact zI)|(refine And.intro ?_ ?_<;>intro hg)|exact zC|fail)
 refine za3 (zgc _ _ (zlo zar mixed 7 ?_))
 repeat'(first|refine zq (I @List.take_succ_cons.{0} (I @List.take_zero.{0} (I hat3 (I @zmd (I @List.map_cons.{0,0} (I @zbw @zbb)))))) ?_|exact zd (I @List.take_succ_cons.{0} (I @List.take_zero.{0} (I hat3 (I @zmd (I @List.map_cons.{0,0} (I @zbw @zbb))))))|(refine zaa ?_ ?_<;>intro hb)|(refine And.intro ?_ ?_;exact zI)|(refine And.intro ?_ ?_<;>intro hg)|exact zC|fail)
 refine⟨_,Gh.view (i:=114) (j:=5) rfl rfl, ?_⟩
 have hie:zat (k.line++[c])=zat k.line++[iD c]:=by simp[zat]
 have hset:=zbP LkD.enc 4 (fun _=>rfl) hil (k:=3) (by decide) (.sl (k.line.length+1) (zat k.line++[iD c])) (plain ⟨k.name,k.holder,k.token,k.line++[c]⟩)
  (by rw[zdH hi,if_pos rfl,he,plain];simp only[LkD.enc,List.length_append,List.length_singleton,hie];rfl)
 rw[show(zhJ l (za9 l name) (.raw (.slice a k.line.length cap))).set (za9 l name) (plain ⟨k.name,k.holder,k.token,k.line++[c]⟩)=(l.set (za9 l name) ⟨k.name,k.holder,k.token,k.line++[c]⟩).map plain from by
  refine List.ext_getElem (by simp[zbb]) fun j h1 h2=> ?_
  have hj:j<l.length:=by simpa using h2
  rw[List.getElem_set,List.getElem_map,List.getElem_set]
  split
  ·rfl
  ·rw[zdH hj,if_neg (by omega)],show List.flatMap LkD.enc ((l.set (za9 l name) ⟨k.name,k.holder,k.token,k.line++[c]⟩).map plain)=zah (l.set (za9 l name) ⟨k.name,k.holder,k.token,k.line++[c]⟩) from zgY]at hset
 have hi1:(zat k.line).take (k.line.length*1)=zat k.line:=List.take_of_length_le (by rw[zaf];omega)
 have hi2:(zat k.line++[D.v (.int .i64 c)]).take (k.line.length+1)=zat k.line++[D.v (.int .i64 c)]:=List.take_of_length_le (by rw[List.length_append,zaf];exact Nat.le_refl _)
 have hbig:((k.line.length+1)*8≤2^47)=True:=eq_true (by omega)
 repeat'(first|refine zq (I @List.drop_succ_cons.{0} (I @List.drop_zero.{0} (I hset (I @zaf (I hi1 (I hi2 (I hbig (I @zmd (I @List.map_cons.{0,0} (I @zbw @zbb)))))))))) ?_|exact zd (I @List.drop_succ_cons.{0} (I @List.drop_zero.{0} (I hset (I @zaf (I hi1 (I hi2 (I hbig (I @zmd (I @List.map_cons.{0,0} (I @zbw @zbb))))))))))|(refine zaa ?_ ?_<;>intro hb)|(refine And.intro ?_ ?_;exact zI)|(refine And.intro ?_ ?_<;>intro hg)|exact zC|fail)
 simp[zeW,zaY]
theorem zqu (l:List Lk) (hs:SL l) (hl:l.length<2^30) (hll:∀k∈l,k.line.length<2^30) (name:ByteArray) (c t:Int) (ht:0≤t∧t<2^62) (hc:isClient c=true) (w:Bool):
  CallOK Tryz.prog 103 [.f (al l.length (zah l)), .f (ast name), .f (ai c), .f (ai t), .f (ab w)]
  (fun r o=>r=[.one (.own 4 (zaH l name c t w).1.length (zah (zaH l name c t w).1) false),ri (zaH l name c t w).2.1,ri (zaH l name c t w).2.2]∧o=[]):=by
 cases hf:zcc l name with
 |none=>exact zoO l hs hl hll name c t ht w hf
 |some k=>
  by_cases hx:(k.holder==c)=true∨w=false∨hasI k.line c=true∨decide ((k.line.length:Int)≥3)=true
  ·exact zoP l hs hl hll name c t hc w k hf hx
  ·simp only[not_or,Bool.not_eq_true,Bool.not_eq_false]at hx
   exact zoQ l hs hl hll name c t hc w k hf hx.1 hx.2.1 hx.2.2.1 hx.2.2.2
theorem zqt {l:List Int} {c:Int}:zaS l [c]=l.filter fun x=> !(x==c):=by
 unfold zaS hasI
 congr 1
 funext x
 simp[zkU]
theorem ziC:∀{l:List Int} {c:Int},l.Nodup→hasI l c=true→(zce l c).1=zaS l [c]:=fun {l c} hn hc=>by
 rw[zqt]
 unfold zce
 rcases zdA (fun x=>c==x) l 0 with⟨h1,_⟩|⟨k,hk,h2,h3,h4⟩
 ·exfalso
  unfold hasI at hc
  obtain⟨x,hx,hx2⟩:=List.any_eq_true.1 hc
  rw[h1 x hx]at hx2;cases hx2
 ·have h2':zcn (fun x=>c==x) l 0=((0+k:Nat):Int):=h2
  rw[h2',if_neg (by omega)]
  simp only[Nat.zero_add,Int.toNat_natCast]
  have hck:c=l[k]:=by simpa using h3
  subst hck
  clear h2 h2' h3 h4 hc
  induction l generalizing k with
  |nil=>simp at hk
  |cons y l ih=>
   have hn':=List.nodup_cons.1 hn
   cases k with
   |zero=>
    simp only[List.eraseIdx_cons_zero,List.getElem_cons_zero,List.filter_cons,beq_self_eq_true,Bool.not_true,Bool.false_eq_true,if_false]
    refine(List.filter_eq_self.2 fun x hx=> ?_).symm
    have:x≠y:=fun e=>hn'.1 (e▸hx)
    simpa using this
   |succ k=>
    have hk':k<l.length:=by simpa using hk
    simp only[List.eraseIdx_cons_succ,List.getElem_cons_succ,List.filter_cons]
    have:y≠l[k]:=fun e=>hn'.1 (e▸List.getElem_mem hk')
    rw[if_pos (by simpa using this),ih hn'.2 k hk']
set_option maxHeartbeats 4000000 in
theorem zlX (l:List Lk) (hs:SL l) (hl:l.length<2^30) (hll:∀k∈l,k.line.length<2^30∧k.line.Nodup) (name:ByteArray) (c t:Int) (ht:0≤t∧t<2^62):
  CallOK Tryz.prog 105 [.f (al l.length (zah l)), .f (ast name), .f (ai c), .f (ai t)]
  (fun r o=>r=[.one (.own 4 (za2 l name c t).1.length (zah (za2 l name c t).1) false),ri (za2 l name c t).2.1,ri (za2 l name c t).2.2]∧o=[]):=by
 refine CallOK.nil ?_
 refine zac zar mixed (T:=Ty) (n:=101) Tryz.func105 (c:=Tryz.f105.body.getD .skip) rfl Tryz.results105 Tryz.ntmps105 Tryz.call105 ?_
 simp only[Tryz.f105,Option.getD]
 have hco:=zge l hl (fun k hk=>(hll k hk).1)
 have hfi:=zgS l (by omega) name
 rw[zfj hs]at hfi
 have hwt:IntKind.i64.wrap (t+1)=t+1:=wrap64 (by omega) (by omega)
 cases hf:zcc l name with
 |none=>
  rw[hf]at hfi
  simp only at hfi
  have hm1:decide ((-1:Int)<0)=true:=rfl
  have hfr:za2 l name c t=([],0,6):=by unfold za2;rw[hf]
  rw[hfr]
  repeat'(first|refine zq (I hm1 @zay) ?_|exact zd (I hm1 @zay)|refine zc (hco) ?_|refine zg (hco) ?_|refine zc (hfi) ?_|refine zg (hfi) ?_|(refine zaa ?_ ?_<;>intro hb)|(refine And.intro ?_ ?_;exact zI)|(refine And.intro ?_ ?_<;>intro hg)|exact zC|fail)
  simp[zeW,zaY]
 |some k=>
  rw[hf]at hfi
  simp only at hfi
  obtain⟨⟨hi,he⟩,hn⟩:=zcd hs hf
  have hat:=zaJ hi
  rw[he]at hat
  obtain⟨hkl,hkn⟩:=hll k (he▸List.getElem_mem hi)
  have hah:=zgW k.line (by omega) c
  have hm1:decide ((za9 l name:Int)<0)=false:=by simp
  have hat1:(zah l).drop (za9 l name*4+1)=iD k.holder::iD k.token:: .sl k.line.length (zat k.line)::zah (l.drop (za9 l name+1)):=by rw[←List.drop_drop,hat];rfl
  have hat3:(zah l).drop (za9 l name*4+3)= .sl k.line.length (zat k.line)::zah (l.drop (za9 l name+1)):=by rw[←List.drop_drop,hat];rfl
  have hfr:za2 l name c t=if(k.holder==c)=true then((zco l (za9 l name) k t).1,(zco l (za9 l name) k t).2,0)else
    if hasI k.line c=true then(l.set (za9 l name) ⟨k.name,k.holder,k.token,(zce k.line c).1⟩,0,0)else([],0,6):=by unfold za2;rw[hf]
  cases h1:(k.holder==c)
  ·have h1':(k.holder !=c)=true:=by rw[bne,h1];rfl
   rw[if_neg (by rw[h1];simp)]at hfr
   cases h3:hasI k.line c
   ·rw[if_neg (by rw[h3];simp)]at hfr
    rw[hfr]
    rw[h3]at hah
    repeat'(first|refine zq (I hm1 (I h1' (I hat1 (I hat3 (I @zmd (I @List.map_cons.{0,0} (I @zad @zay))))))) ?_|exact zd (I hm1 (I h1' (I hat1 (I hat3 (I @zmd (I @List.map_cons.{0,0} (I @zad @zay)))))))|refine zc (hco) ?_|refine zg (hco) ?_|refine zc (hfi) ?_|refine zg (hfi) ?_|refine zc (hah) ?_|refine zg (hah) ?_|(refine zaa ?_ ?_<;>intro hb)|(refine And.intro ?_ ?_;exact zI)|(refine And.intro ?_ ?_<;>intro hg)|exact zC|fail)
    simp[zeW,zaY]
   ·rw[if_pos h3,ziC hkn h3]at hfr
    rw[hfr]
    rw[h3]at hah
    have hwo:=zgX k.line [c] hkl (by simp)
    have hset:=zbP Lk.enc 4 (fun _=>rfl) hi (k:=3) (by decide) (.sl (zaS k.line [c]).length (zat (zaS k.line [c]))) ⟨k.name,k.holder,k.token,zaS k.line [c]⟩ (by rw[he];rfl)
    have hwl:(zat (zaS k.line [c])).take ((zaS k.line [c]).length*1)=zat (zaS k.line [c]):=List.take_of_length_le (by rw[zaf];omega)
    repeat'(first|(with_reducible first|refine zab _ _ ?_|refine zaP ?_|refine zaQ ?_)|rw[zak]|simp only[hm1,h1',hat1,hat3,hset,hwl,zeC,zaf,←List.map_drop,List.map_cons,zad,zay,zY,Int.reduceEq,Int.reduceBEq,Int.reduceBNe,Nat.reduceSub,Nat.reduceEqDiff,Nat.reduceAdd,Nat.reduceMul,Nat.reduceLeDiff,Nat.reduceLT,Nat.reduceBEq,reduceCtorEq]|((first|((try refine zaz ?_);apply zaD)|(apply zaB;intro _));(solve|exact(hco)|exact(hfi)|exact(hah)|exact(hwo)|(refine CallOK.le (hco) ?_;exact zM)|(refine CallOK.le (hfi) ?_;exact zM)|(refine CallOK.le (hah) ?_;exact zM)|(refine CallOK.le (hwo) ?_;exact zM)|fail);try case hn=>rfl)|refine zam ?_|refine zaa (fun hb=> ?_) (fun hb=> ?_)|(refine And.intro ?_ ?_;exact zI)|refine And.intro (fun hg=> ?_) (fun hg=> ?_)|exact zC|fail)
    simp[zeW,zaY]
  ·have h1':(k.holder !=c)=false:=by rw[bne,h1];rfl
   rw[if_pos h1]at hfr
   rw[hfr]
   unfold zco
   cases hk:k.line with
   |nil=>
    rw[hk]at hat1 hat3
    simp only[List.length_nil,List.flatMap_nil]at hat1 hat3
    have hE:=zi1 Lk.enc 4 (fun _=>rfl) hi
    have hE2:((zah l).drop ((za9 l name+1)*4)).take ((l.length - (za9 l name+1))*4)=(zah l).drop ((za9 l name+1)*4):=List.take_of_length_le (by rw[List.length_drop,zad];omega)
    have hz:(((0:Nat):Int)==0)=true:=rfl
    have hw:IntKind.i64.wrap ((za9 l name:Int)+1)=((za9 l name+1:Nat):Int):=by rw[wrap64 (by omega) (by omega)];omega
    have hq1:((zah l).take (za9 l name*4)).length=za9 l name*4:=by rw[List.length_take,zad];omega
    have hq2:((zah l).drop ((za9 l name+1)*4)).length=(l.length - (za9 l name+1))*4:=by rw[List.length_drop,zad];omega
    have hB1:(za9 l name*56≤2^47)=True:=eq_true (by omega)
    have hB2:((za9 l name+(l.length - (za9 l name+1)))*56≤2^47)=True:=eq_true (by omega)
    have hB3:(((za9 l name+1:Nat):Int)≤(l.length:Int))=True:=eq_true (by omega)
    have hB4:((za9 l name:Int)≤(l.length:Int))=True:=eq_true (by omega)
    have hB5:(0≤((za9 l name+1:Nat):Int))=True:=eq_true (by omega)
    have hTT:((zah l).take (za9 l name*4)).take (za9 l name*4)=(zah l).take (za9 l name*4):=List.take_of_length_le (by omega)
    have hTA:(zah l).take (za9 l name*4)++(zah l).drop ((za9 l name+1)*4)=zah (l.eraseIdx (za9 l name)):=hE.symm
    have hle:(l.eraseIdx (za9 l name)).length=za9 l name+(l.length - (za9 l name+1)):=by rw[List.length_eraseIdx_of_lt hi];omega
    repeat'(first|(with_reducible first|refine zab _ _ ?_|refine zaP ?_|refine zaQ ?_)|rw[zak]|simp only[hm1,h1',hat1,hat3,hz,hw,hE2,hq1,hq2,hB1,hB2,hB3,hB4,hB5,hTT,hTA,Int.le_refl,←List.map_drop,List.map_cons,zad,zay,zY,Int.reduceEq,Int.reduceBEq,Int.reduceBNe,Nat.reduceSub,Nat.reduceEqDiff,Nat.reduceAdd,Nat.reduceMul,Nat.reduceLeDiff,Nat.reduceLT,Nat.reduceBEq,reduceCtorEq]|((first|((try refine zaz ?_);apply zaD)|(apply zaB;intro _));(solve|exact(hco)|exact(hfi)|(refine CallOK.le (hco) ?_;exact zM)|(refine CallOK.le (hfi) ?_;exact zM)|fail);try case hn=>rfl)|refine zam ?_|refine zaa (fun hb=> ?_) (fun hb=> ?_)|(refine And.intro ?_ ?_;exact zI)|refine And.intro (fun hg=> ?_) (fun hg=> ?_)|exact zC|fail)
    simp[zeW,zaY,hle]
   |cons x rest=>
    rw[hk]at hat1 hat3
    have hz:(((rest.length+1:Nat):Int)==0)=false:=by simp;omega
    have hrl:rest.length<2^30:=by rw[hk,List.length_cons]at hkl;omega
    have hn1:rest.length+1 - 1=rest.length:=rfl
    have hT:(zat rest).take rest.length=zat rest:=List.take_of_length_le (by rw[zaf];exact Nat.le_refl _)
    have hBr:(rest.length*8≤2^47)=True:=eq_true (by omega)
    have hnx:=List.nodup_cons.1 (hk▸hkn)
    have hset1:=zbP Lk.enc 4 (fun _=>rfl) hi (k:=1) (by decide) (iD x) ⟨k.name,x,k.token,x::rest⟩ (by rw[he,←hk];rfl)
    obtain⟨l1,hl1⟩:∃l1,l1=l.set (za9 l name) ⟨k.name,x,k.token,x::rest⟩:=⟨_,rfl⟩
    have hi1:za9 l name<l1.length:=by rw[hl1];simpa using hi
    have hg1:l1[za9 l name]=⟨k.name,x,k.token,x::rest⟩:=by simp[hl1]
    have hset2:=zbP Lk.enc 4 (fun _=>rfl) hi1 (k:=3) (by decide) (.sl rest.length (zat rest)) ⟨k.name,x,k.token,rest⟩ (by rw[hg1];rfl)
    obtain⟨l2,hl2⟩:∃l2,l2=l1.set (za9 l name) ⟨k.name,x,k.token,rest⟩:=⟨_,rfl⟩
    have hi2:za9 l name<l2.length:=by rw[hl2];simpa using hi1
    have hg2:l2[za9 l name]=⟨k.name,x,k.token,rest⟩:=by simp[hl2]
    have hset3:=zbP Lk.enc 4 (fun _=>rfl) hi2 (k:=2) (by decide) (iD (t+1)) ⟨k.name,x,t+1,rest⟩ (by rw[hg2];rfl)
    have hl3:l2.set (za9 l name) ⟨k.name,x,t+1,rest⟩=l.set (za9 l name) ⟨k.name,x,t+1,rest⟩:=by rw[hl2,hl1,List.set_set,List.set_set]
    rw[←hl1]at hset1
    rw[←hl2]at hset2
    rw[hl3]at hset3
    have hat3':=zaJ hi1
    rw[hg1]at hat3'
    have hat3':(zah l1).drop (za9 l name*4+3)= .sl (x::rest).length (zat (x::rest))::zah (l1.drop (za9 l name+1)):=by rw[←List.drop_drop,hat3'];rfl
    have hll1:l1.length=l.length:=by rw[hl1,List.length_set]
    repeat'(first|refine zq (I hm1 (I h1' (I hat1 (I hat3 (I hat3' (I hz (I hwt (I hset1 (I hset2 (I hset3 (I @zaf (I hn1 (I hT (I hBr (I hll1 (I @zmd (I @List.map_cons.{0,0} (I @zad @zay)))))))))))))))))) ?_|exact zd (I hm1 (I h1' (I hat1 (I hat3 (I hat3' (I hz (I hwt (I hset1 (I hset2 (I hset3 (I @zaf (I hn1 (I hT (I hBr (I hll1 (I @zmd (I @List.map_cons.{0,0} (I @zad @zay))))))))))))))))))|refine zc (hco) ?_|refine zg (hco) ?_|refine zc (hfi) ?_|refine zg (hfi) ?_|(refine zaa ?_ ?_<;>intro hb)|(refine And.intro ?_ ?_;exact zI)|(refine And.intro ?_ ?_<;>intro hg)|exact zC|fail)
    simp[zeW,zaY]
theorem zto {l m:List Lk} (h:SL l) (hs:(m.map Lk.name).Sublist (l.map Lk.name)):SL m:=by
 have h1:(l.map Lk.name).Pairwise fun a b=>zdh a b=true:=List.pairwise_map.2 h
 exact List.pairwise_map.1 (h1.sublist hs)
theorem zsr {gone:List Int} {l:List Lk}:(l.map (zaq gone)).map Lk.name=l.map Lk.name:=by rw[List.map_map];rfl
theorem zss {l:List Lk} (hs:SL l) {i:Nat} (hi:i<l.length):zcc l l[i].name=some l[i]∧za9 l l[i].name=i:=by
 have hself:∀x:Lk,isL x.name x=true:=fun x=>by simp[isL]
 have hne:∀{a b:Nat} (ha:a<l.length) (hb:b<l.length),a<b→l[a].name.toList=l[b].name.toList→False:=fun ha hb hab h=>by
  have:=List.pairwise_iff_getElem.1 hs _ _ ha hb hab
  simp only[zdh,h,zgp]at this
  cases this
 have key:∀{j:Nat} (hj:j<l.length),isL l[i].name l[j]=true→j=i:=fun {j} hj h=>by
  simp only[isL,beq_iff_eq]at h
  rcases Nat.lt_trichotomy j i with h1|h1|h1
  ·exact(hne hj hi h1 h).elim
  ·exact h1
  ·exact(hne hi hj h1 h.symm).elim
 cases hf:zcc l l[i].name with
 |none=>exact absurd (hself l[i]) (List.find?_eq_none.1 hf _ (List.getElem_mem hi))
 |some x=>
  obtain⟨⟨hp,he⟩,hx⟩:=zcd hs hf
  have:=key hp (by rw[he];exact hx)
  refine⟨?_,this⟩
  rw[←he]
  simp only[this]
theorem zst {gone:List Int} {k:Lk} (h:k.line.length<2^30∧k.line.Nodup):(zaq gone k).line.length<2^30∧(zaq gone k).line.Nodup:=
 ⟨Nat.lt_of_le_of_lt (List.length_filter_le ..) h.1,h.2.filter _⟩
set_option maxHeartbeats 4000000 in
theorem zqs (l:List Lk) (hs:SL l) (hl:l.length<2^30) (hll:∀k∈l,k.line.length<2^30∧k.line.Nodup) (gone:List Int) (hg:gone.length<2^30) (t:Int) (ht:0≤t∧t≤2^61):
  CallOK Tryz.prog 97 [.f (al l.length (zah l)), .f (al gone.length (zat gone)), .f (ai t)]
  (fun r o=>r=[.one (.own 4 (zbW l gone t).1.length (zah (zbW l gone t).1) false),ri (zbW l gone t).2]∧o=[]):=by
 refine zac zar mixed (T:=Ty) (n:=72) Tryz.func97 (c:=Tryz.f97.body.getD .skip) rfl Tryz.results97 Tryz.ntmps97 Tryz.call97 ?_
 simp only[Tryz.f97,Option.getD]
 have hco:=zge l hl (fun k hk=>(hll k hk).1)
 repeat'(first|refine zq (I @zad @zay) ?_|exact zd (I @zad @zay)|refine zc (hco) ?_|refine zg (hco) ?_|(refine zaa ?_ ?_<;>intro hb)|(refine And.intro ?_ ?_;exact zI)|(refine And.intro ?_ ?_<;>intro hg)|exact zC|fail)
 refine zao (τ:=Nat) (fun i=>⟨[al l.length (zah l),al gone.length (zat gone),ai t,dd,dd,dd,dd,dd, .one (.own ⟨8,1,1⟩ 0 l.length),ai i,dd,dd,dd,dd,dd,dd,dd,dd,dd,dd,dd,dd,dd,dd,dd,dd,dd,dd,dd,dd,dd,dd,dd,dd,dd,dd,dd,dd,dd,dd,dd,dd,dd,dd,dd,dd,dd,dd,dd,dd,dd,dd,dd,dd,dd,dd,dd,dd,dd,dd,dd,dd,dd,dd,dd,dd,dd,dd,dd,dd,dd,dd],[(16,⟨2,[]⟩),(8,{next:=2,l:=[none,some {e:=1,var:=false,fz:=false,sz:=4,cells:=(zah (curL l gone i)).map C.d}]}),(31,⟨2,[]⟩)]⟩)
  (fun i=>i≤l.length) (fun _=>()) (fun i=>l.length - i) 0
  (Gh.canon [8] [31] [] zK rfl rfl) (Nat.zero_le _) ?_
 intro i hi0 hF K hK
 refine zw ?_
 refine zaa (fun hlt=> ?_) (fun hge=> ?_)
 ·have hi:i<l.length:=by simpa using hlt
  obtain⟨hic,hce⟩:=zoB (gone:=gone) hi
  have hat:=zaJ hic
  rw[hce]at hat
  have hat2:(zah (curL l gone i)).drop (i*4+3)= .sl l[i].line.length (zat l[i].line)::zah ((curL l gone i).drop (i+1)):=by rw[←List.drop_drop,hat];rfl
  have hw:=zan hi (by omega)
  have hwo:=zgX l[i].line gone (hll _ (List.getElem_mem hi)).1 hg
  have hset:=zbP Lk.enc 4 (fun _=>rfl) hic (k:=3) (by decide) (.sl (zaS l[i].line gone).length (zat (zaS l[i].line gone))) (zaq gone l[i]) (by rw[hce];rfl)
  rw[zj1 hi]at hset
  have hwl:(zat (zaS l[i].line gone)).take ((zaS l[i].line gone).length*1)=zat (zaS l[i].line gone):=List.take_of_length_le (by rw[zaf];omega)
  repeat'(first|(with_reducible first|refine zab _ _ ?_|refine zaP ?_|refine zaQ ?_)|rw[zak]|simp only[hat2,hset,hwl,zeC,←List.map_drop,List.map_cons,zad,zlT hi0,zY,Int.reduceEq,Int.reduceBEq,Int.reduceBNe,Nat.reduceSub,Nat.reduceEqDiff,Nat.reduceAdd,Nat.reduceMul,Nat.reduceLeDiff,Nat.reduceLT,Nat.reduceBEq,reduceCtorEq]|((first|((try refine zaz ?_);apply zaD)|(apply zaB;intro _));(solve|exact(hwo)|(refine CallOK.le (hwo) ?_;exact zM)|fail);try case hn=>rfl)|refine zam ?_|refine zaa (fun hb=> ?_) (fun hb=> ?_)|(refine And.intro ?_ ?_;exact zI)|refine And.intro (fun hg=> ?_) (fun hg=> ?_)|exact zC|fail)
  exact hK _ (i+1) (Gh.canon [8] [] [] (zk hw) rfl rfl) hi rfl (by omega)
 ·have hi:i=l.length:=by
   have:¬(i:Int)<l.length:=by simpa using hge
   omega
  rw[hi,zlU]
  have hdP:zbW l gone t=zbz gone t (l.map (zaq gone)) 0:=rfl
  rw[hdP]
  obtain⟨W,hW⟩:∃W,W=l.map (zaq gone):=⟨_,rfl⟩
  have hWl:W.length=l.length:=by rw[hW,List.length_map]
  have hWn:W.map Lk.name=l.map Lk.name:=by rw[hW];exact zsr
  have hWg:∀(j:Nat) (hj:j<l.length),W[j]'(by omega)=zaq gone l[j]:=fun j hj=>by simp[hW]
  have hWk:∀k∈W,k.line.length<2^30∧k.line.Nodup:=fun k hk=>by
   rw[hW]at hk
   obtain⟨k0,hk0,rfl⟩:=List.mem_map.1 hk
   exact zst (hll k0 hk0)
  rw[←hW]
  clear hdP hW
  repeat'(first|refine zq0 ?_|exact zd0|(refine zaa ?_ ?_<;>intro hb)|(refine And.intro ?_ ?_;exact zI)|(refine And.intro ?_ ?_<;>intro hg)|exact zC|fail)
  refine zao (τ:=List Lk×Nat×Int) (fun q=>⟨[al l.length (zah l),al gone.length (zat gone),ai t,dd,dd,dd,dd,dd, .one (.own ⟨8,1,1⟩ 0 (q.1++W.drop q.2.1).length),dd,ai q.2.2,ai q.2.1,dd,dd,dd,dd,dd,dd,dd,dd,dd,dd,dd,dd,dd,dd,dd,dd,dd,dd,dd,dd,dd,dd,dd,dd,dd,dd,dd,dd,dd,dd,dd,dd,dd,dd,dd,dd,dd,dd,dd,dd,dd,dd,dd,dd,dd,dd,dd,dd,dd,dd,dd,dd,dd,dd,dd,dd,dd,dd,dd,dd],[(16,⟨2,[]⟩),(8,{next:=2,l:=[none,some {e:=1,var:=false,fz:=false,sz:=4,cells:=(zah (q.1++W.drop q.2.1)).map C.d}]}),(31,⟨2,[]⟩),(12,⟨2,[]⟩),(62,⟨2,[]⟩)]⟩)
   (fun q=>q.2.1≤l.length∧(0≤q.2.2∧q.2.2≤q.2.1)∧(q.1.map Lk.name).Sublist ((l.take q.2.1).map Lk.name)∧∀k∈q.1,k.line.length<2^30∧k.line.Nodup)
   (fun q=>(q.1++(zbz gone t (W.drop q.2.1) q.2.2).1,(zbz gone t (W.drop q.2.1) q.2.2).2)) (fun q=>l.length - q.2.1) ([],0,0)
   (Gh.canon [8] [12,62] [] (zk (I @List.drop_zero.{0} (I @List.nil_append.{0} hWl))) rfl rfl) ⟨Nat.zero_le _,⟨Int.le_refl _,Int.le_refl _⟩,List.nil_sublist _,by simp⟩ ?_
  rintro⟨L,i,g⟩ ⟨j1,j2,j3,j4⟩ hF K hK
  simp only[List.drop_zero,List.nil_append]at j1 j2 j3 j4 hF hK⊢
  refine zw ?_
  refine zaa (fun hlt=> ?_) (fun hge=> ?_)
  ·have hi:i<l.length:=by simpa using hlt
   have hat:=zaJ hi
   have hat1:(zah l).drop (i*4+1)=iD l[i].holder::iD l[i].token:: .sl l[i].line.length (zat l[i].line)::zah (l.drop (i+1)):=by rw[←List.drop_drop,hat];rfl
   have hin:=zql gone (by omega) l[i].holder
   have hw:=zan hi (by omega)
   have hiw:i<W.length:=by omega
   have hgw:=hWg i hi
   have hdr:=zhE (gone:=gone) (t:=t) (g:=g) hiw
   rw[hgw]at hdr
   have hdc:W.drop i=zaq gone l[i]::W.drop (i+1):=by rw[List.drop_eq_getElem_cons hiw,hgw]
   have hL:L.length≤i:=by have:=j3.length_le;simp only[List.length_map,List.length_take]at this;omega
   have htk:(l.take (i+1)).map Lk.name=(l.take i).map Lk.name++[l[i].name]:=by rw[←List.take_append_getElem hi,List.map_append];rfl
   cases hh:hasI gone l[i].holder
   ·rw[hh]at hin
    rw[show hasI gone (zaq gone l[i]).holder=false from hh,if_neg (by simp)]at hdr
    have hMe:L++W.drop i=L++[zaq gone l[i]]++W.drop (i+1):=by rw[hdc];simp
    obtain⟨M,hM⟩:∃M,M=L++W.drop i:=⟨_,rfl⟩
    rw[←hM]
    rw[hMe]at hM
    repeat'(first|refine zq (I hat (I hat1 (I @zad zca))) ?_|exact zd (I hat (I hat1 (I @zad zca)))|refine zc (hin) ?_|refine zg (hin) ?_|(refine zaa ?_ ?_<;>intro hb)|(refine And.intro ?_ ?_;exact zI)|(refine And.intro ?_ ?_<;>intro hg)|exact zC|fail)
    rw[hM]
    refine hK _ (L++[zaq gone l[i]],i+1,g) (Gh.canon [8] [] [] (zk hw) rfl rfl) ⟨hi,⟨j2.1,by simp only;omega⟩, ?_, ?_⟩ ?_ (by simp only;omega)
    ·simp only[htk,List.map_append,List.map_cons,List.map_nil]
     exact j3.append (List.Sublist.refl _)
    ·intro k hk
     rcases List.mem_append.1 hk with hk|hk
     ·exact j4 k hk
     ·rw[List.mem_singleton.1 hk];exact zst (hll _ (List.getElem_mem hi))
    ·simp only;rw[hdr];simp
   ·rw[hh]at hin
    rw[show hasI gone (zaq gone l[i]).holder=true from hh,if_pos rfl]at hdr
    -- the row,as it stands
    obtain⟨M,hM⟩:∃M,M=L++W.drop i:=⟨_,rfl⟩
    have hMl:M.length=L.length+(l.length - i):=by rw[hM,List.length_append,List.length_drop,hWl]
    have hMs:SL M:=zto hs (by
     rw[hM,List.map_append,List.map_drop,hWn,←List.map_drop]
     have:=j3.append (List.Sublist.refl ((l.drop i).map Lk.name))
     rwa[show(l.take i).map Lk.name++(l.drop i).map Lk.name=l.map Lk.name from by rw[←List.map_append,List.take_append_drop]]at this)
    have hMk:∀k∈M,k.line.length<2^30∧k.line.Nodup:=fun k hk=>by
     rw[hM]at hk
     rcases List.mem_append.1 hk with hk|hk
     ·exact j4 k hk
     ·exact hWk k (List.mem_of_mem_drop hk)
    have hMi:L.length<M.length:=by omega
    have hMg:M[L.length]=zaq gone l[i]:=by
     subst hM
     rw[List.getElem_append_right (Nat.le_refl _)]
     simp only[Nat.sub_self,List.getElem_drop,Nat.add_zero]
     exact hgw
    obtain⟨hf1,hf2⟩:=zss hMs hMi
    rw[hMg]at hf1 hf2
    have hf1:zcc M l[i].name=some (zaq gone l[i]):=hf1
    have hf2:za9 M l[i].name=L.length:=hf2
    have hfr:=zlX M hMs (by omega) hMk l[i].name l[i].holder (t+g) (by omega)
    have hwt:IntKind.i64.wrap (t+g)=t+g:=wrap64 (by omega) (by omega)
    have hfp:za2 M l[i].name l[i].holder (t+g)=((zco M L.length (zaq gone l[i]) (t+g)).1,(zco M L.length (zaq gone l[i]) (t+g)).2,0):=by
     unfold za2
     rw[hf1,hf2]
     simp only
     rw[if_pos (show((zaq gone l[i]).holder==l[i].holder)=true from by simp[zaq])]
    rw[hfp]at hfr
    rw[←hM]
    clear hlt
    cases hline:(zaq gone l[i]).line with
    |nil=>
     rw[hline]at hdr
     simp only at hdr
     have hp:zco M L.length (zaq gone l[i]) (t+g)=(M.eraseIdx L.length,0):=by unfold zco;rw[hline]
     rw[hp]at hfr
     have hg0:IntKind.i64.wrap (g+0)=g:=by rw[Int.add_zero];exact wrap64 (by omega) (by omega)
     have hMe:M.eraseIdx L.length=L++W.drop (i+1):=by rw[hM,List.eraseIdx_append_of_length_le (Nat.le_refl _),Nat.sub_self,hdc];rfl
     rw[hMe]at hfr
     repeat'(first|refine zq (I hat (I hat1 (I hwt (I @zad (I @zay zca))))) ?_|exact zd (I hat (I hat1 (I hwt (I @zad (I @zay zca)))))|refine zc (hin) ?_|refine zg (hin) ?_|refine zc (hfr) ?_|refine zg (hfr) ?_|(refine zaa ?_ ?_<;>intro hb)|(refine And.intro ?_ ?_;exact zI)|(refine And.intro ?_ ?_<;>intro hg)|exact zC|fail)
     refine hK _ (L,i+1,g) (Gh.canon [8] [] [] (zk (I hw hg0)) rfl rfl) ⟨hi,⟨j2.1,by simp only;omega⟩, ?_,j4⟩ ?_ (by simp only;omega)
     ·simp only[htk]
      exact j3.trans (List.sublist_append_left _ _)
     ·simp only;rw[hdr]
    |cons x rest=>
     rw[hline]at hdr
     simp only at hdr
     have hp:zco M L.length (zaq gone l[i]) (t+g)=(M.set L.length ⟨l[i].name,x,t+g+1,rest⟩,1):=by unfold zco;rw[hline];rfl
     rw[hp]at hfr
     have hg1:IntKind.i64.wrap (g+1)=g+1:=wrap64 (by omega) (by omega)
     have hMe:M.set L.length ⟨l[i].name,x,t+g+1,rest⟩=L++[⟨l[i].name,x,t+g+1,rest⟩]++W.drop (i+1):=by rw[hM,List.set_append_right _ _ (Nat.le_refl _),Nat.sub_self,hdc];simp
     rw[hMe]at hfr
     repeat'(first|refine zq (I hat (I hat1 (I hwt (I @zad (I @zay zca))))) ?_|exact zd (I hat (I hat1 (I hwt (I @zad (I @zay zca)))))|refine zc (hin) ?_|refine zg (hin) ?_|refine zc (hfr) ?_|refine zg (hfr) ?_|(refine zaa ?_ ?_<;>intro hb)|(refine And.intro ?_ ?_;exact zI)|(refine And.intro ?_ ?_<;>intro hg)|exact zC|fail)
     refine hK _ (L++[⟨l[i].name,x,t+g+1,rest⟩],i+1,g+1) (Gh.canon [8] [] [] (zk (I hw hg1)) rfl rfl) ⟨hi,⟨by simp only;omega,by simp only;omega⟩, ?_, ?_⟩ ?_ (by simp only;omega)
     ·simp only[htk,List.map_append,List.map_cons,List.map_nil]
      exact j3.append (List.Sublist.refl _)
     ·intro k hk
      rcases List.mem_append.1 hk with hk|hk
      ·exact j4 k hk
      ·rw[List.mem_singleton.1 hk]
       have:=zst (gone:=gone) (hll _ (List.getElem_mem hi))
       rw[hline]at this
       exact⟨by have:=this.1;simp only[List.length_cons]at this⊢;omega,(List.nodup_cons.1 this.2).2⟩
     ·simp only;rw[hdr];simp[zaq]
  ·have hi:i=l.length:=by
    have:¬(i:Int)<l.length:=by simpa using hge
    omega
   subst hi
   have hd0:W.drop l.length=[]:=List.drop_eq_nil_of_le (by omega)
   rw[hd0]at hF⊢
   simp only[zbz,List.append_nil]at hF⊢
   have e1:L=(zbz gone t W 0).1:=congrArg Prod.fst hF
   have e2:g=(zbz gone t W 0).2:=congrArg Prod.snd hF
   rw[←e1,←e2]
   repeat'(first|refine zq0 ?_|exact zd0|(refine zaa ?_ ?_<;>intro hb)|(refine And.intro ?_ ?_;exact zI)|(refine And.intro ?_ ?_<;>intro hg)|exact zC|fail)
end Go.Proofs.YtngleemijkaeoaaGreat
