import Derived.Test.YtbpmcjeeeiffhaaGreatV
namespace Go.Proofs.YtbpmcjeeeiffhaaGreat
open Go.Pk
set_option maxRecDepth 100000
set_option linter.unusedSimpArgs false
set_option linter.unusedVariables false
theorem zns (l:List LkD) (hl:l.length<2^62) (s:ByteArray):CallOK Tryz.prog 180 [.f (al l.length (rowsD l)), .f (ast s)] (fun r o=>r=[ri (idxF (isL s) (l.map LkD.k) 0)]∧o=[]):=by
 refine zae zat mixed (T:=Ty) (n:=20) Tryz.func180 (c:=Tryz.f180.body.getD .skip) rfl Tryz.results180 Tryz.ntmps180 Tryz.call180 ?_
 simp only[Tryz.f180,Option.getD]
 repeat'(first|refine zq0 ?_|exact zd0|refine zaa ?_|refine zab (fun hb=> ?_) (fun hb=> ?_)|(refine And.intro ?_ ?_;exact zI)|refine And.intro (fun hg=> ?_) (fun hg=> ?_)|exact zC|fail)
 refine zaq (τ:=Nat) (fun i=>⟨[al l.length (rowsD l),ast s,dd,dd,dd,ai i,dd,dd,dd,dd,dd,dd,dd,dd,dd,dd,dd,dd,dd,dd],[]⟩)
  (fun i=>i≤l.length) (fun i=>idxF (isL s) ((l.drop i).map LkD.k) i) (fun i=>l.length - i) 0
  (Gh.canon [] [] [] zK rfl rfl) (Nat.zero_le _) ?_
 intro i hi0 hF K hK
 rw[List.drop_zero]at hF
 refine zw ?_
 refine zab (fun hlt=> ?_) (fun hge=> ?_)
 ·have hi:i<l.length:=by simpa using hlt
  have hat:=zkG hi
  have hw:=zar hi hl
  have hq:idxF (isL s) ((l.drop i).map LkD.k) i=if(l[i].k.name.toList==s.toList)=true then(i:Int)else idxF (isL s) ((l.drop (i+1)).map LkD.k) ((i+1:Nat):Int):=by
   rw[List.drop_eq_getElem_cons hi,List.map_cons,idxF];rfl
  rw[hq]at hF
  repeat'(first|refine zq (I hat (I @List.cons_append.{0} (I @List.nil_append.{0} @zbc))) ?_|exact zd (I hat (I @List.cons_append.{0} (I @List.nil_append.{0} @zbc)))|refine zaa ?_|refine zab (fun hb=> ?_) (fun hb=> ?_)|(refine And.intro ?_ ?_;exact zI)|refine And.intro (fun hg=> ?_) (fun hg=> ?_)|exact zC|fail)
  ·rw[if_pos hb]at hF
   have hF:(i:Int)=idxF (isL s) (l.map LkD.k) 0:=hF
   rw[←hF]
  ·rw[if_neg (by rw[hb];simp)]at hq
   exact hK _ (i+1) (Gh.canon [] [] [] (by simp only[hw,zah,zau,zai,zak,zal,zam,List.set_cons_zero,List.set_cons_succ,and_true,true_and,Int.natCast_zero,Int.cast_ofNat_Int,D.v.injEq,Value.int.injEq];try(repeat'(first|rfl|omega|with_reducible apply And.intro))) rfl rfl) hi hq.symm (by omega)
 ·have hi:i=l.length:=by
   have:¬(i:Int)<l.length:=by simpa using hge
   omega
  rw[hi,List.drop_length]at hF
  have hF:(-1:Int)=idxF (isL s) (l.map LkD.k) 0:=hF
  rw[←hF]
  repeat'(first|refine zq0 ?_|exact zd0|refine zaa ?_|refine zab (fun hb=> ?_) (fun hb=> ?_)|(refine And.intro ?_ ?_;exact zI)|refine And.intro (fun hg=> ?_) (fun hg=> ?_)|exact zC|fail)
theorem zeG {l:List Lk} (hs:SL l) (s:ByteArray):idxF (isL s) l 0=match findL l s with|none=> -1|some _=>(posL l s:Int):=by
 rcases zfz (isL s) l 0 with⟨h1,h2⟩|⟨k,hk,h2,h3,h4⟩
 ·have:findL l s=none:=List.find?_eq_none.2 fun x hx=>by rw[h1 x hx];simp
  rw[this];exact h2
 ·cases hf:findL l s with
  |none=>exact absurd h3 (List.find?_eq_none.1 hf _ (List.getElem_mem hk))
  |some x=>
   obtain⟨⟨hp,he⟩,hx⟩:=zcc hs hf
   have hkp:k=posL l s:=by
    have hne:∀{i j:Nat} (hi:i<l.length) (hj:j<l.length),i<j→isL s l[i]=true→isL s l[j]=true→False:=fun hi hj hij h1 h2=>by
     have:=List.pairwise_iff_getElem.1 hs _ _ hi hj hij
     simp only[isL,beq_iff_eq]at h1 h2
     simp only[bLess,h1,h2,zkB]at this
     cases this
    rcases Nat.lt_trichotomy k (posL l s)with h|h|h
    ·exact(hne hk hp h h3 (by rw[he];exact hx)).elim
    ·exact h
    ·exact(hne hp hk h (by rw[he];exact hx) h3).elim
   have h2':idxF (isL s) l 0=((0+k:Nat):Int):=h2
   rw[h2']
   show((0+k:Nat):Int)=(posL l s:Int)
   omega
theorem zlt {l:List Lk} {name:ByteArray} {c t:Int} {w:Bool} (hf:findL l name=none):takeP l name c t w=if decide ((l.length:Int)≥4)=true then([],0,5)else(l.take (posL l name)++⟨name,c,t+1,[]⟩::l.drop (posL l name),0,0):=by unfold takeP;rw[hf]
theorem zi1 {α:Type} {l:List α} {j:Nat} {y:α} (hj:j≤l.length):(l.take j++y::l.drop j).length=l.length+1:=by
 rw[List.length_append,List.length_take,List.length_cons,List.length_drop];omega
theorem znt {α:Type} {l:List α} {j i:Nat} {y:α} (hj:j≤l.length) (hi:i<j):(l.take j++y::l.drop j)[i]'(by rw[zi1 hj];omega)=l[i]:=by
 rw[List.getElem_append_left (by rw[List.length_take];omega),List.getElem_take]
theorem zlu {α:Type} {l:List α} {j:Nat} {y:α} (hj:j≤l.length) (h0:0<j):(l.take j++y::l.drop j).set j (l[j - 1]'(by omega))=l.take (j - 1)++(l[j - 1]'(by omega))::l.drop (j - 1):=by
 rw[List.set_append_right _ _ (by rw[List.length_take];omega)]
 rw[show j - (l.take j).length=0 by rw[List.length_take];omega,List.set_cons_zero]
 rw[show l.take j=l.take (j - 1)++[l[j - 1]'(by omega)] by
  rw[List.take_append_getElem (by omega),show j - 1+1=j by omega]]
 rw[List.append_assoc]
 congr 1
 rw[List.drop_eq_getElem_cons (show j - 1<l.length by omega),show j - 1+1=j by omega]
 rfl
theorem znu {α:Type} {l:List α} {j:Nat} {y x:α} (hj:j≤l.length):(l.take j++y::l.drop j).set j x=l.take j++x::l.drop j:=by
 rw[List.set_append_right _ _ (by rw[List.length_take];omega),show j - (l.take j).length=0 by rw[List.length_take];omega,List.set_cons_zero]
abbrev noLk:Lk:=⟨.empty,0,0,[]⟩
set_option maxHeartbeats 4000000 in
theorem znv (l:List Lk) (hs:SL l) (hl:l.length<2^30) (hll:∀k∈l,k.line.length<2^30) (name:ByteArray) (c t:Int) (ht:0≤t∧t<2^62) (w:Bool) (hf:findL l name=none):
  CallOK Tryz.prog 149 [.f (al l.length (locksE l)), .f (ast name), .f (ai c), .f (ai t), .f (ab w)]
  (fun r o=>r=[.one (.own 4 (takeP l name c t w).1.length (locksE (takeP l name c t w).1) false),ri (takeP l name c t w).2.1,ri (takeP l name c t w).2.2]∧o=[]):=by
 refine CallOK.nil ?_
 refine zae zat mixed (T:=Ty) (n:=122) Tryz.func149 (c:=Tryz.f149.body.getD .skip) rfl Tryz.results149 Tryz.ntmps149 Tryz.call149 ?_
 simp only[Tryz.f149,Option.getD]
 have hco:=zeH l hl hll
 have hfi:=zga l (by omega) name
 rw[zeG hs,hf]at hfi
 simp only at hfi
 rw[zlt hf]
 have hwt:IntKind.i64.wrap (t+1)=t+1:=wrap64 (by omega) (by omega)
 have hm1:decide ((-1:Int)<0)=true:=rfl
 cases h4:decide ((l.length:Int)≥4)
 ·rw[if_neg (by simp)]
  have hlt4:l.length<4:=by simp at h4;omega
  have hp:=zjA (p:=fun x:Lk=>bLess x.name name) (l:=l)
  repeat'(first|refine zq (I hm1 (I h4 (I @zaf @zan))) ?_|exact zd (I hm1 (I h4 (I @zaf @zan)))|refine zc (hco) ?_|refine zg (hco) ?_|refine zc (hfi) ?_|refine zg (hfi) ?_|refine zaa ?_|refine zab (fun hb=> ?_) (fun hb=> ?_)|(refine And.intro ?_ ?_;exact zI)|refine And.intro (fun hg=> ?_) (fun hg=> ?_)|exact zC|fail)
  refine zpK (τ:=Unit) (fun _=>⟨[dd,ast name,ai c,ai t,dd,dd,dd,dd,dd,dd,dd,dd,dd, .one (.own ⟨13,1,1⟩ 0 l.length),dd,ai (posL l name:Int),dd,dd,dd,dd,dd,dd,dd,dd,dd,dd,dd,dd,dd,dd,dd,dd,dd,dd,dd,dd,dd,dd,dd,dd,dd,dd,dd,dd,dd,dd,dd,dd,dd,dd,dd,dd,dd,dd,dd,dd,dd,dd,dd,dd,dd,dd,dd,dd,dd,dd,dd,dd,dd,dd,dd,dd,dd,dd,dd,dd,dd,dd,dd,dd,dd,dd,dd,dd,dd,dd,dd,dd,dd,dd,dd,dd,dd,dd,dd,dd,dd,dd,dd,dd,dd,dd,dd,dd,dd,dd,dd,dd,dd,dd,dd,dd,dd,dd,dd,dd,dd,dd,dd,dd,dd,dd],[(20,⟨2,[]⟩),(13,{next:=2,l:=[none,some {e:=1,var:=false,fz:=false,sz:=4,cells:=(locksE l).map C.d}]})]⟩) (fun _=>True) (fun _ _=> ?_) (fun Kx hKx=> ?_)
  ·have hlz:locksE l++[D.v (.string .empty),D.v (.int .i64 0),D.v (.int .i64 0), .sl 0 []]=locksE (l.take l.length++noLk::l.drop l.length):=by rw[List.take_length,List.drop_length,zcU];rfl
   have hw1:IntKind.i64.wrap (((l.length+1:Nat):Int) - 1)=(l.length:Int):=by rw[wrap64 (by omega) (by omega)];omega
   have hbig:((l.length+1)*48≤2^47)=True:=eq_true (by omega)
   repeat'(first|refine zq (I @zaf (I @zan (I hlz (I hw1 hbig)))) ?_|exact zd (I @zaf (I @zan (I hlz (I hw1 hbig))))|refine zaa ?_|refine zab (fun hb=> ?_) (fun hb=> ?_)|(refine And.intro ?_ ?_;exact zI)|refine And.intro (fun hg=> ?_) (fun hg=> ?_)|exact zC|fail)
   refine zaq (τ:=Nat×Lk) (fun q=>⟨[dd,ast name,ai c,ai t,dd,dd,dd,dd,dd,dd,dd,dd,dd, .one (.own ⟨13,1,1⟩ 0 (l.length+1)),dd,ai (posL l name:Int),ai q.1,dd,dd,dd,dd,dd,dd,dd,dd,dd,dd,dd,dd,dd,dd,dd,dd,dd,dd,dd,dd,dd,dd,dd,dd,dd,dd,dd,dd,dd,dd,dd,dd,dd,dd,dd,dd,dd,dd,dd,dd,dd,dd,dd,dd,dd,dd,dd,dd,dd,dd,dd,dd,dd,dd,dd,dd,dd,dd,dd,dd,dd,dd,dd,dd,dd,dd,dd,dd,dd,dd,dd,dd,dd,dd,dd,dd,dd,dd,dd,dd,dd,dd,dd,dd,dd,dd,dd,dd,dd,dd,dd,dd,dd,dd,dd,dd,dd,dd,dd,dd,dd,dd,dd,dd,dd],[(20,⟨2,[]⟩),(13,{next:=2,l:=[none,some {e:=1,var:=false,fz:=false,sz:=4,cells:=(locksE (l.take q.1++q.2::l.drop q.1)).map C.d}]}),(46,⟨2,[]⟩)]⟩)
    (fun q=>posL l name≤q.1∧q.1≤l.length) (fun _=>()) (fun q=>q.1) (l.length,noLk) (Gh.canon [13] [] [] zK rfl rfl) ⟨hp,Nat.le_refl _⟩ ?_
   rintro⟨j,y⟩ ⟨hj1,hj2⟩ hF K hK
   simp only at hj1 hj2 hK⊢
   have hlen:=zi1 (l:=l) (j:=j) (y:=y) hj2
   by_cases hjp:posL l name<j
   ·have hd:decide ((j:Int)>(posL l name:Int))=true:=by simpa using hjp
    have hw:IntKind.i64.wrap ((j:Int) - 1)=((j - 1:Nat):Int):=by rw[wrap64 (by omega) (by omega)];omega
    have hat:=zaN (l:=l.take j++y::l.drop j) (i:=j - 1) (by omega)
    rw[znt hj2 (by omega)]at hat
    have hset:=zkC Lk.enc 4 (fun _=>rfl) (l:=l.take j++y::l.drop j) (i:=j) (by omega) (l[j - 1]'(by omega))
    rw[zlu hj2 (by omega)]at hset
    simp only[fillAt,List.map_cons,List.map_nil]at hset
    repeat'(first|(with_reducible first|refine zad _ _ ?_|refine zaE ?_|refine zaF ?_)|rw[zaB]|simp only[hd,hw,hat,List.cons_append,List.nil_append,←List.map_drop,List.map_cons,zaf,hlen,fillAt,hset,zY,Int.reduceEq,Int.reduceBEq,Int.reduceBNe,Nat.reduceSub,Nat.reduceEqDiff,Nat.reduceAdd,Nat.reduceMul,Nat.reduceLeDiff,Nat.reduceLT,Nat.reduceBEq,reduceCtorEq]|refine zaa ?_|refine zab (fun hb=> ?_) (fun hb=> ?_)|(refine And.intro ?_ ?_;exact zI)|refine And.intro (fun hg=> ?_) (fun hg=> ?_)|exact zC|fail)
    exact hK _ (j - 1,l[j - 1]'(by omega)) (Gh.canon [13] [] [] zK rfl rfl) ⟨by omega,by omega⟩ trivial (by simp only;omega)
   ·have hjj:j=posL l name:=by omega
    have hd:decide ((j:Int)>(posL l name:Int))=false:=by simp;omega
    have hset:=zkC Lk.enc 4 (fun _=>rfl) (l:=l.take j++y::l.drop j) (i:=j) (by omega) ⟨name,c,t+1,[]⟩
    rw[znu hj2]at hset
    simp only[fillAt,List.map_cons,List.map_nil,List.length_nil,List.flatMap_nil]at hset
    subst hjj
    repeat'(first|(with_reducible first|refine zad _ _ ?_|refine zaE ?_|refine zaF ?_)|rw[zaB]|simp only[hd,hwt,zaf,hlen,fillAt,hset,zY,Int.reduceEq,Int.reduceBEq,Int.reduceBNe,Nat.reduceSub,Nat.reduceEqDiff,Nat.reduceAdd,Nat.reduceMul,Nat.reduceLeDiff,Nat.reduceLT,Nat.reduceBEq,reduceCtorEq]|refine zaa ?_|refine zab (fun hb=> ?_) (fun hb=> ?_)|(refine And.intro ?_ ?_;exact zI)|refine And.intro (fun hg=> ?_) (fun hg=> ?_)|exact zC|fail)
    have hp':posL l name≤l.length:=hp
    simp[rfs3,roLe]
    omega
  ·refine zaq (τ:=Nat) (fun i=>⟨[dd,ast name,ai c,ai t,dd,dd,dd,dd,dd,dd,dd,dd,dd, .one (.own ⟨13,1,1⟩ 0 l.length),dd,ai i,dd,dd,dd,dd,dd,dd,dd,dd,dd,dd,dd,dd,dd,dd,dd,dd,dd,dd,dd,dd,dd,dd,dd,dd,dd,dd,dd,dd,dd,dd,dd,dd,dd,dd,dd,dd,dd,dd,dd,dd,dd,dd,dd,dd,dd,dd,dd,dd,dd,dd,dd,dd,dd,dd,dd,dd,dd,dd,dd,dd,dd,dd,dd,dd,dd,dd,dd,dd,dd,dd,dd,dd,dd,dd,dd,dd,dd,dd,dd,dd,dd,dd,dd,dd,dd,dd,dd,dd,dd,dd,dd,dd,dd,dd,dd,dd,dd,dd,dd,dd,dd,dd,dd,dd,dd,dd],[(20,⟨2,[]⟩),(13,{next:=2,l:=[none,some {e:=1,var:=false,fz:=false,sz:=4,cells:=(locksE l).map C.d}]})]⟩)
    (fun i=>i≤posL l name) (fun _=>()) (fun i=>l.length - i) 0 (Gh.canon [13] [] [] zK rfl rfl) (Nat.zero_le _) ?_
   intro i hi0 hF K hK
   by_cases hi:i<l.length
   ·have hat:=zaN hi
    have hd:decide ((i:Int)<(l.length:Int))=true:=by simpa using hi
    have hw:=zar hi (by omega)
    repeat'(first|refine zq (I hd (I hat (I @List.cons_append.{0} (I @List.nil_append.{0} (I @zmd (I @List.map_cons.{0,0} @zaf)))))) ?_|exact zd (I hd (I hat (I @List.cons_append.{0} (I @List.nil_append.{0} (I @zmd (I @List.map_cons.{0,0} @zaf))))))|refine zaa ?_|refine zab (fun hb=> ?_) (fun hb=> ?_)|(refine And.intro ?_ ?_;exact zI)|refine And.intro (fun hg=> ?_) (fun hg=> ?_)|exact zC|fail)
    ·have hip:i<posL l name:=Nat.lt_of_not_le fun h=>by
      have:Go.Op.bytesLess l[i].name.toList name.toList=false:=zhO hi (zjC hs name) h
      rw[hb]at this
      cases this
     exact hK _ (i+1) (Gh.canon [13] [] [] (by simp only[hw,zah,zau,zai,zak,zal,zam,List.set_cons_zero,List.set_cons_succ,and_true,true_and,Int.natCast_zero,Int.cast_ofNat_Int,D.v.injEq,Value.int.injEq];try(repeat'(first|rfl|omega|with_reducible apply And.intro))) rfl rfl) hip rfl (by omega)
    ·have hip:i=posL l name:=Nat.le_antisymm hi0 (Nat.le_of_not_lt fun h=>by
      have:Go.Op.bytesLess l[i].name.toList name.toList=true:=zhN hi h
      rw[hb]at this
      cases this)
     subst hip
     exact hKx _ () (Gh.canon [13] [] [] zK rfl rfl) trivial
   ·have hd:decide ((i:Int)<(l.length:Int))=false:=by simpa using hi
    have hdr:(locksE l).drop (i*4)=[]:=List.drop_eq_nil_of_le (by rw[zaf];omega)
    repeat'(first|refine zq (I hd (I hdr (I @zmd (I @List.map_nil.{0,0} @zaf)))) ?_|exact zd (I hd (I hdr (I @zmd (I @List.map_nil.{0,0} @zaf))))|refine zaa ?_|refine zab (fun hb=> ?_) (fun hb=> ?_)|(refine And.intro ?_ ?_;exact zI)|refine And.intro (fun hg=> ?_) (fun hg=> ?_)|exact zC|fail)
    have hip:i=posL l name:=by have:posL l name≤l.length:=hp;omega
    subst hip
    exact hKx _ () (Gh.canon [13] [] [] zK rfl rfl) trivial
 ·rw[if_pos rfl]
  repeat'(first|refine zq (I hm1 (I h4 (I @zaf @zan))) ?_|exact zd (I hm1 (I h4 (I @zaf @zan)))|refine zc (hco) ?_|refine zg (hco) ?_|refine zc (hfi) ?_|refine zg (hfi) ?_|refine zaa ?_|refine zab (fun hb=> ?_) (fun hb=> ?_)|(refine And.intro ?_ ?_;exact zI)|refine And.intro (fun hg=> ?_) (fun hg=> ?_)|exact zC|fail)
  simp[rfs3,roLe]
theorem zg1 {l:List Lk} {name:ByteArray} {c t:Int} {w:Bool} {k:Lk} (hf:findL l name=some k) (hc:isClient c=true):takeP l name c t w=if(k.holder==c)=true then([],0,7)else if(!w)=true then([],0,8)else
  if hasI k.line c=true then(l,aheadP k.line c,10)else if decide ((k.line.length:Int)≥3)=true then([],0,5)else(l.set (posL l name) ⟨k.name,k.holder,k.token,k.line++[c]⟩,k.line.length,10):=by
 unfold takeP
 rw[hf]
 simp only
 split
 ·rfl
 ·split
  ·rfl
  ·split
   ·rfl
   ·rename_i h
    have hj:joinP k.line c=if decide ((k.line.length:Int)≥3)=true then([],0,5)else(k.line++[c],(k.line.length:Int),0):=by
     unfold joinP
     rw[if_neg (by rw[hc];simp),if_neg h]
    rw[hj]
    cases decide ((k.line.length:Int)≥3)
    ·rfl
    ·rfl
set_option maxHeartbeats 4000000 in
theorem znw (l:List Lk) (hs:SL l) (hl:l.length<2^30) (hll:∀k∈l,k.line.length<2^30) (name:ByteArray) (c t:Int) (hc:isClient c=true) (w:Bool) (k:Lk) (hf:findL l name=some k)
  (hx:(k.holder==c)=true∨w=false∨hasI k.line c=true∨decide ((k.line.length:Int)≥3)=true):
  CallOK Tryz.prog 149 [.f (al l.length (locksE l)), .f (ast name), .f (ai c), .f (ai t), .f (ab w)]
  (fun r o=>r=[.one (.own 4 (takeP l name c t w).1.length (locksE (takeP l name c t w).1) false),ri (takeP l name c t w).2.1,ri (takeP l name c t w).2.2]∧o=[]):=by
 refine CallOK.nil ?_
 refine zae zat mixed (T:=Ty) (n:=122) Tryz.func149 (c:=Tryz.f149.body.getD .skip) rfl Tryz.results149 Tryz.ntmps149 Tryz.call149 ?_
 simp only[Tryz.f149,Option.getD]
 have hco:=zeH l hl hll
 have hfi:=zga l (by omega) name
 rw[zeG hs,hf]at hfi
 simp only at hfi
 have htk:=zg1 (t:=t) (w:=w) hf hc
 generalize takeP l name c t w=R at htk⊢
 obtain⟨⟨hi,he⟩,hn⟩:=zcc hs hf
 have hat:=zaN hi
 rw[he]at hat
 have hkl:=hll k (he▸List.getElem_mem hi)
 have hah:=zgd k.line (by omega) c
 have hm1:decide ((posL l name:Int)<0)=false:=by simp
 have hat1:(locksE l).drop (posL l name*4+1)=iD k.holder::iD k.token:: .sl k.line.length (intsE k.line)::locksE (l.drop (posL l name+1)):=by rw[←List.drop_drop,hat];rfl
 have hat3:(locksE l).drop (posL l name*4+3)= .sl k.line.length (intsE k.line)::locksE (l.drop (posL l name+1)):=by rw[←List.drop_drop,hat];rfl
 cases h1:(k.holder==c)
 ·cases w
  ·repeat'(first|refine zq (I hm1 (I h1 (I hat1 (I @List.cons_append.{0} (I @List.nil_append.{0} (I @zmd (I @List.map_cons.{0,0} (I @List.drop_succ_cons.{0} (I @List.drop_zero.{0} (I @zaf @zan)))))))))) ?_|exact zd (I hm1 (I h1 (I hat1 (I @List.cons_append.{0} (I @List.nil_append.{0} (I @zmd (I @List.map_cons.{0,0} (I @List.drop_succ_cons.{0} (I @List.drop_zero.{0} (I @zaf @zan))))))))))|refine zc (hco) ?_|refine zg (hco) ?_|refine zc (hfi) ?_|refine zg (hfi) ?_|refine zaa ?_|refine zab (fun hb=> ?_) (fun hb=> ?_)|(refine And.intro ?_ ?_;exact zI)|refine And.intro (fun hg=> ?_) (fun hg=> ?_)|exact zC|fail)
   rw[if_neg (by rw[h1];simp),if_pos (show(!false)=true from rfl)]at htk
   rw[htk];simp[rfs3,roLe]
  ·rw[if_neg (by rw[h1];simp),if_neg (by simp)]at htk
   cases h3:hasI k.line c
   ·rw[if_neg (by rw[h3];simp)]at htk
    have h4:decide ((k.line.length:Int)≥3)=true:=by rcases hx with h|h|h|h<;>simp_all
    rw[if_pos h4]at htk
    rw[h3]at hah
    repeat'(first|refine zq (I hm1 (I h1 (I h3 (I h4 (I hat1 (I hat3 (I @List.cons_append.{0} (I @List.nil_append.{0} (I @zmd (I @List.map_cons.{0,0} (I @List.drop_succ_cons.{0} (I @List.drop_zero.{0} (I @zaf @zan))))))))))))) ?_|exact zd (I hm1 (I h1 (I h3 (I h4 (I hat1 (I hat3 (I @List.cons_append.{0} (I @List.nil_append.{0} (I @zmd (I @List.map_cons.{0,0} (I @List.drop_succ_cons.{0} (I @List.drop_zero.{0} (I @zaf @zan)))))))))))))|refine zc (hco) ?_|refine zg (hco) ?_|refine zc (hfi) ?_|refine zg (hfi) ?_|refine zc (hah) ?_|refine zg (hah) ?_|refine zaa ?_|refine zab (fun hb=> ?_) (fun hb=> ?_)|(refine And.intro ?_ ?_;exact zI)|refine And.intro (fun hg=> ?_) (fun hg=> ?_)|exact zC|fail)
    rw[htk];simp[rfs3,roLe]
   ·rw[if_pos h3]at htk
    rw[h3]at hah
    repeat'(first|refine zq (I hm1 (I h1 (I h3 (I hat1 (I hat3 (I @List.cons_append.{0} (I @List.nil_append.{0} (I @zmd (I @List.map_cons.{0,0} (I @List.drop_succ_cons.{0} (I @List.drop_zero.{0} (I @zaf @zan)))))))))))) ?_|exact zd (I hm1 (I h1 (I h3 (I hat1 (I hat3 (I @List.cons_append.{0} (I @List.nil_append.{0} (I @zmd (I @List.map_cons.{0,0} (I @List.drop_succ_cons.{0} (I @List.drop_zero.{0} (I @zaf @zan))))))))))))|refine zc (hco) ?_|refine zg (hco) ?_|refine zc (hfi) ?_|refine zg (hfi) ?_|refine zc (hah) ?_|refine zg (hah) ?_|refine zaa ?_|refine zab (fun hb=> ?_) (fun hb=> ?_)|(refine And.intro ?_ ?_;exact zI)|refine And.intro (fun hg=> ?_) (fun hg=> ?_)|exact zC|fail)
    rw[htk];simp[rfs3,roLe]
 ·repeat'(first|refine zq (I hm1 (I h1 (I hat1 (I @List.cons_append.{0} (I @List.nil_append.{0} (I @zmd (I @List.map_cons.{0,0} (I @List.drop_succ_cons.{0} (I @List.drop_zero.{0} (I @zaf @zan)))))))))) ?_|exact zd (I hm1 (I h1 (I hat1 (I @List.cons_append.{0} (I @List.nil_append.{0} (I @zmd (I @List.map_cons.{0,0} (I @List.drop_succ_cons.{0} (I @List.drop_zero.{0} (I @zaf @zan))))))))))|refine zc (hco) ?_|refine zg (hco) ?_|refine zc (hfi) ?_|refine zg (hfi) ?_|refine zaa ?_|refine zab (fun hb=> ?_) (fun hb=> ?_)|(refine And.intro ?_ ?_;exact zI)|refine And.intro (fun hg=> ?_) (fun hg=> ?_)|exact zC|fail)
  rw[if_pos h1]at htk
  rw[htk];simp[rfs3,roLe]
set_option maxHeartbeats 4000000 in
theorem znx (l:List Lk) (hs:SL l) (hl:l.length<2^30) (hll:∀k∈l,k.line.length<2^30) (name:ByteArray) (c t:Int) (hc:isClient c=true) (w:Bool) (k:Lk) (hf:findL l name=some k)
  (h1:(k.holder==c)=false) (hw:w=true) (h3:hasI k.line c=false) (h4:decide ((k.line.length:Int)≥3)=false):
  CallOK Tryz.prog 149 [.f (al l.length (locksE l)), .f (ast name), .f (ai c), .f (ai t), .f (ab w)]
  (fun r o=>r=[.one (.own 4 (takeP l name c t w).1.length (locksE (takeP l name c t w).1) false),ri (takeP l name c t w).2.1,ri (takeP l name c t w).2.2]∧o=[]):=by
 refine CallOK.nil ?_
 refine zae zat mixed (T:=Ty) (n:=122) Tryz.func149 (c:=Tryz.f149.body.getD .skip) rfl Tryz.results149 Tryz.ntmps149 Tryz.call149 ?_
 simp only[Tryz.f149,Option.getD]
 have htk:=zg1 (t:=t) (w:=w) hf hc
 subst hw
 rw[if_neg (by rw[h1];simp),if_neg (by simp),if_neg (by rw[h3];simp),if_neg (by rw[h4];simp)]at htk
 rw[htk]
 obtain⟨⟨hi,he⟩,hn⟩:=zcc hs hf
 have hco:=zny l hl hll (posL l name) hi
 rw[he]at hco
 have hkl:=hll k (he▸List.getElem_mem hi)
 have hah:=zgd k.line (by omega) c
 rw[h3]at hah
 have hm1:decide ((posL l name:Int)<0)=false:=by simp
 repeat'(first|(with_reducible first|refine zaW 1 ?_|refine zaK 1 ?_|refine zaL 1 ?_)|refine zu0 ?_|exact zd0|(with_reducible first|refine zad _ _ ?_)|refine zaa ?_|refine zab (fun hb=> ?_) (fun hb=> ?_)|(refine And.intro ?_ ?_;exact zI)|refine And.intro (fun hg=> ?_) (fun hg=> ?_)|exact zC|fail)
 refine zaS (zc0 _ _ (zlZ zat mixed 1 (q:=5) (v1:=[al l.length (locksE l),ast name,ai c,ai t,ab true,dd,dd,dd,dd,dd, .one (.d (.v (.slice none 0 0))),ai 0,ai 0,dd,dd,dd,dd,dd,dd,al l.length (locksE l),dd,dd,dd,dd,dd,dd,dd,dd,dd,dd,dd,dd,dd,dd,dd,dd,dd,dd,dd,dd,dd,dd,dd,dd,dd,dd,dd,dd,dd,dd,dd,dd,dd,dd,dd,dd,dd,dd,dd,dd,dd,dd,dd,dd,dd,dd,dd,dd,dd,dd,dd,dd,dd,dd,dd,dd,dd,dd,dd,dd,dd,dd,dd,dd,dd,dd,dd,dd,dd,dd,dd,dd,dd,dd,dd,dd,dd,dd,dd,dd,dd,dd,dd,dd,dd,dd,dd,dd,dd,dd,dd,dd,dd,dd,dd,dd,dd,dd,dd,dd,dd,dd]) (r1:=[]) rfl rfl rfl rfl (fun K hK=> ?_) ?_ ?_ rfl hco rfl (by decide) ?_))
 ·repeat'(first|refine zq (I @List.take_succ_cons.{0} @List.take_zero.{0}) ?_|exact zd (I @List.take_succ_cons.{0} @List.take_zero.{0})|refine zaa ?_|refine zab (fun hb=> ?_) (fun hb=> ?_)|(refine And.intro ?_ ?_;exact zI)|refine And.intro (fun hg=> ?_) (fun hg=> ?_)|exact zC|fail)
  exact hK
 ·exact trivial
 ·exact⟨trivial,trivial⟩
 rintro x ⟨a,cap,rfl⟩
 have hfi:=zns (expo l (posL l name) (.raw (.slice a k.line.length cap))) (by rw[zaR];omega) name
 rw[zq7,zeG hs,hf,zaR]at hfi
 simp only at hfi
 have hil:posL l name<(expo l (posL l name) (.raw (.slice a k.line.length cap))).length:=by rw[zaR];exact hi
 have hat:=zkG hil
 rw[zc4 hi,if_pos rfl,he]at hat
 have htk:=zg2 (l:=expo l (posL l name) (.raw (.slice a k.line.length cap)))
 rw[zaR]at htk
 have hat1:(rowsD (expo l (posL l name) (.raw (.slice a k.line.length cap)))).drop (posL l name*4+1)=iD k.holder::iD k.token:: .raw (.slice a k.line.length cap)::rowsD ((expo l (posL l name) (.raw (.slice a k.line.length cap))).drop (posL l name+1)):=by rw[←List.drop_drop,hat];rfl
 have hat3:(rowsD (expo l (posL l name) (.raw (.slice a k.line.length cap)))).drop (posL l name*4+3)= .raw (.slice a k.line.length cap)::rowsD ((expo l (posL l name) (.raw (.slice a k.line.length cap))).drop (posL l name+1)):=by rw[←List.drop_drop,hat];rfl
 repeat'(first|(with_reducible first|refine zaW 20 ?_|refine zaK 20 ?_|refine zaL 20 ?_)|refine zu (I hm1 (I h1 (I @List.drop_succ_cons.{0} (I @List.drop_zero.{0} (I hat1 (I htk (I @zmd (I @List.map_cons.{0,0} (I @zbc @zaR))))))))) ?_|exact zd (I hm1 (I h1 (I @List.drop_succ_cons.{0} (I @List.drop_zero.{0} (I hat1 (I htk (I @zmd (I @List.map_cons.{0,0} (I @zbc @zaR)))))))))|(with_reducible first|refine zad _ _ ?_)|refine zc (hfi) ?_|refine zg (hfi) ?_|refine zaa ?_|refine zab (fun hb=> ?_) (fun hb=> ?_)|(refine And.intro ?_ ?_;exact zI)|refine And.intro (fun hg=> ?_) (fun hg=> ?_)|exact zC|fail)
 refine zaS (zc0 _ _ (zj2 zat mixed 5 ?_))
 repeat'(first|refine zq (I @List.take_succ_cons.{0} (I @List.take_zero.{0} (I hat3 (I @zmd (I @List.map_cons.{0,0} (I @zbc @zaR)))))) ?_|exact zd (I @List.take_succ_cons.{0} (I @List.take_zero.{0} (I hat3 (I @zmd (I @List.map_cons.{0,0} (I @zbc @zaR))))))|refine zaa ?_|refine zab (fun hb=> ?_) (fun hb=> ?_)|(refine And.intro ?_ ?_;exact zI)|refine And.intro (fun hg=> ?_) (fun hg=> ?_)|exact zC|fail)
 refine⟨_,Gh.view (i:=87) (j:=5) rfl rfl, ?_⟩
 repeat'(first|(with_reducible first|refine zaW 26 ?_|refine zaK 26 ?_|refine zaL 26 ?_)|refine zu (I @List.drop_succ_cons.{0} (I @List.drop_zero.{0} (I h4 (I hat3 (I @zmd (I @List.map_cons.{0,0} (I @zbc @zaR))))))) ?_|exact zd (I @List.drop_succ_cons.{0} (I @List.drop_zero.{0} (I h4 (I hat3 (I @zmd (I @List.map_cons.{0,0} (I @zbc @zaR)))))))|(with_reducible first|refine zad _ _ ?_)|refine zc (hah) ?_|refine zg (hah) ?_|refine zaa ?_|refine zab (fun hb=> ?_) (fun hb=> ?_)|(refine And.intro ?_ ?_;exact zI)|refine And.intro (fun hg=> ?_) (fun hg=> ?_)|exact zC|fail)
 refine zaS (zc0 _ _ (zj2 zat mixed 7 ?_))
 repeat'(first|refine zq (I @List.take_succ_cons.{0} (I @List.take_zero.{0} (I hat3 (I @zmd (I @List.map_cons.{0,0} (I @zbc @zaR)))))) ?_|exact zd (I @List.take_succ_cons.{0} (I @List.take_zero.{0} (I hat3 (I @zmd (I @List.map_cons.{0,0} (I @zbc @zaR))))))|refine zaa ?_|refine zab (fun hb=> ?_) (fun hb=> ?_)|(refine And.intro ?_ ?_;exact zI)|refine And.intro (fun hg=> ?_) (fun hg=> ?_)|exact zC|fail)
 refine⟨_,Gh.view (i:=114) (j:=5) rfl rfl, ?_⟩
 have hie:intsE (k.line++[c])=intsE k.line++[iD c]:=by simp[intsE]
 have hset:=zd5 LkD.enc 4 (fun _=>rfl) hil (k:=3) (by decide) (.sl (k.line.length+1) (intsE k.line++[iD c])) (plain ⟨k.name,k.holder,k.token,k.line++[c]⟩)
  (by rw[zc4 hi,if_pos rfl,he,plain];simp only[LkD.enc,List.length_append,List.length_singleton,hie];rfl)
 rw[show(expo l (posL l name) (.raw (.slice a k.line.length cap))).set (posL l name) (plain ⟨k.name,k.holder,k.token,k.line++[c]⟩)=(l.set (posL l name) ⟨k.name,k.holder,k.token,k.line++[c]⟩).map plain from by
  refine List.ext_getElem (by simp[zaR]) fun j h1 h2=> ?_
  have hj:j<l.length:=by simpa using h2
  rw[List.getElem_set,List.getElem_map,List.getElem_set]
  split
  ·rfl
  ·rw[zc4 hj,if_neg (by omega)],show List.flatMap LkD.enc ((l.set (posL l name) ⟨k.name,k.holder,k.token,k.line++[c]⟩).map plain)=locksE (l.set (posL l name) ⟨k.name,k.holder,k.token,k.line++[c]⟩) from zgf]at hset
 have hi1:(intsE k.line).take (k.line.length*1)=intsE k.line:=List.take_of_length_le (by rw[zao];omega)
 have hi2:(intsE k.line++[D.v (.int .i64 c)]).take (k.line.length+1)=intsE k.line++[D.v (.int .i64 c)]:=List.take_of_length_le (by rw[List.length_append,zao];exact Nat.le_refl _)
 have hbig:((k.line.length+1)*8≤2^47)=True:=eq_true (by omega)
 repeat'(first|refine zq (I @List.drop_succ_cons.{0} (I @List.drop_zero.{0} (I hset (I @zao (I hi1 (I hi2 (I hbig (I @zmd (I @List.map_cons.{0,0} (I @zbc @zaR)))))))))) ?_|exact zd (I @List.drop_succ_cons.{0} (I @List.drop_zero.{0} (I hset (I @zao (I hi1 (I hi2 (I hbig (I @zmd (I @List.map_cons.{0,0} (I @zbc @zaR))))))))))|refine zaa ?_|refine zab (fun hb=> ?_) (fun hb=> ?_)|(refine And.intro ?_ ?_;exact zI)|refine And.intro (fun hg=> ?_) (fun hg=> ?_)|exact zC|fail)
 simp[rfs3,roLe]
theorem zoP (l:List Lk) (hs:SL l) (hl:l.length<2^30) (hll:∀k∈l,k.line.length<2^30) (name:ByteArray) (c t:Int) (ht:0≤t∧t<2^62) (hc:isClient c=true) (w:Bool):
  CallOK Tryz.prog 149 [.f (al l.length (locksE l)), .f (ast name), .f (ai c), .f (ai t), .f (ab w)]
  (fun r o=>r=[.one (.own 4 (takeP l name c t w).1.length (locksE (takeP l name c t w).1) false),ri (takeP l name c t w).2.1,ri (takeP l name c t w).2.2]∧o=[]):=by
 cases hf:findL l name with
 |none=>exact znv l hs hl hll name c t ht w hf
 |some k=>
  by_cases hx:(k.holder==c)=true∨w=false∨hasI k.line c=true∨decide ((k.line.length:Int)≥3)=true
  ·exact znw l hs hl hll name c t hc w k hf hx
  ·simp only[not_or,Bool.not_eq_true,Bool.not_eq_false]at hx
   exact znx l hs hl hll name c t hc w k hf hx.1 hx.2.1 hx.2.2.1 hx.2.2.2
end Go.Proofs.YtbpmcjeeeiffhaaGreat
namespace Go.Proofs.YtbpmcjeeeiffhaaGreat
open Go.Pk
set_option maxRecDepth 100000
set_option linter.unusedSimpArgs false
set_option linter.unusedVariables false
theorem zoO {l:List Int} {c:Int}:withoutP l [c]=l.filter fun x=> !(x==c):=by
 unfold withoutP hasI
 congr 1
 funext x
 simp[zjE]
theorem zhY:∀{l:List Int} {c:Int},l.Nodup→hasI l c=true→(leaveP l c).1=withoutP l [c]:=fun {l c} hn hc=>by
 rw[zoO]
 unfold leaveP
 rcases zfz (fun x=>c==x) l 0 with⟨h1,_⟩|⟨k,hk,h2,h3,h4⟩
 ·exfalso
  unfold hasI at hc
  obtain⟨x,hx,hx2⟩:=List.any_eq_true.1 hc
  rw[h1 x hx]at hx2;cases hx2
 ·have h2':idxF (fun x=>c==x) l 0=((0+k:Nat):Int):=h2
  rw[h2',if_neg (by omega)]
  simp only[Nat.zero_add,Int.toNat_natCast]
  have hck:c=l[k]:=by simpa using h3
  subst hck
  clear h2 h2' h3 h4 hc
  induction l generalizing k with
  |nil=>simp at hk
  |cons y l ih=>
   have hn':=List.nodup_cons.1 hn
   cases k with
   |zero=>
    simp only[List.eraseIdx_cons_zero,List.getElem_cons_zero,List.filter_cons,beq_self_eq_true,Bool.not_true,Bool.false_eq_true,if_false]
    refine(List.filter_eq_self.2 fun x hx=> ?_).symm
    have:x≠y:=fun e=>hn'.1 (e▸hx)
    simpa using this
   |succ k=>
    have hk':k<l.length:=by simpa using hk
    simp only[List.eraseIdx_cons_succ,List.getElem_cons_succ,List.filter_cons]
    have:y≠l[k]:=fun e=>hn'.1 (e▸List.getElem_mem hk')
    rw[if_pos (by simpa using this),ih hn'.2 k hk']
set_option maxHeartbeats 4000000 in
theorem zkF (l:List Lk) (hs:SL l) (hl:l.length<2^30) (hll:∀k∈l,k.line.length<2^30∧k.line.Nodup) (name:ByteArray) (c t:Int) (ht:0≤t∧t<2^62):
  CallOK Tryz.prog 151 [.f (al l.length (locksE l)), .f (ast name), .f (ai c), .f (ai t)]
  (fun r o=>r=[.one (.own 4 (freeP l name c t).1.length (locksE (freeP l name c t).1) false),ri (freeP l name c t).2.1,ri (freeP l name c t).2.2]∧o=[]):=by
 refine CallOK.nil ?_
 refine zae zat mixed (T:=Ty) (n:=101) Tryz.func151 (c:=Tryz.f151.body.getD .skip) rfl Tryz.results151 Tryz.ntmps151 Tryz.call151 ?_
 simp only[Tryz.f151,Option.getD]
 have hco:=zeH l hl (fun k hk=>(hll k hk).1)
 have hfi:=zga l (by omega) name
 rw[zeG hs]at hfi
 have hwt:IntKind.i64.wrap (t+1)=t+1:=wrap64 (by omega) (by omega)
 cases hf:findL l name with
 |none=>
  rw[hf]at hfi
  simp only at hfi
  have hm1:decide ((-1:Int)<0)=true:=rfl
  have hfr:freeP l name c t=([],0,6):=by unfold freeP;rw[hf]
  rw[hfr]
  repeat'(first|refine zq (I hm1 @zan) ?_|exact zd (I hm1 @zan)|refine zc (hco) ?_|refine zg (hco) ?_|refine zc (hfi) ?_|refine zg (hfi) ?_|refine zaa ?_|refine zab (fun hb=> ?_) (fun hb=> ?_)|(refine And.intro ?_ ?_;exact zI)|refine And.intro (fun hg=> ?_) (fun hg=> ?_)|exact zC|fail)
  simp[rfs3,roLe]
 |some k=>
  rw[hf]at hfi
  simp only at hfi
  obtain⟨⟨hi,he⟩,hn⟩:=zcc hs hf
  have hat:=zaN hi
  rw[he]at hat
  obtain⟨hkl,hkn⟩:=hll k (he▸List.getElem_mem hi)
  have hah:=zgd k.line (by omega) c
  have hm1:decide ((posL l name:Int)<0)=false:=by simp
  have hat1:(locksE l).drop (posL l name*4+1)=iD k.holder::iD k.token:: .sl k.line.length (intsE k.line)::locksE (l.drop (posL l name+1)):=by rw[←List.drop_drop,hat];rfl
  have hat3:(locksE l).drop (posL l name*4+3)= .sl k.line.length (intsE k.line)::locksE (l.drop (posL l name+1)):=by rw[←List.drop_drop,hat];rfl
  have hfr:freeP l name c t=if(k.holder==c)=true then((passP l (posL l name) k t).1,(passP l (posL l name) k t).2,0)else
    if hasI k.line c=true then(l.set (posL l name) ⟨k.name,k.holder,k.token,(leaveP k.line c).1⟩,0,0)else([],0,6):=by unfold freeP;rw[hf]
  cases h1:(k.holder==c)
  ·have h1':(k.holder !=c)=true:=by rw[bne,h1];rfl
   rw[if_neg (by rw[h1];simp)]at hfr
   cases h3:hasI k.line c
   ·rw[if_neg (by rw[h3];simp)]at hfr
    rw[hfr]
    rw[h3]at hah
    repeat'(first|refine zq (I hm1 (I h1' (I hat1 (I hat3 (I @zmd (I @List.map_cons.{0,0} (I @zaf @zan))))))) ?_|exact zd (I hm1 (I h1' (I hat1 (I hat3 (I @zmd (I @List.map_cons.{0,0} (I @zaf @zan)))))))|refine zc (hco) ?_|refine zg (hco) ?_|refine zc (hfi) ?_|refine zg (hfi) ?_|refine zc (hah) ?_|refine zg (hah) ?_|refine zaa ?_|refine zab (fun hb=> ?_) (fun hb=> ?_)|(refine And.intro ?_ ?_;exact zI)|refine And.intro (fun hg=> ?_) (fun hg=> ?_)|exact zC|fail)
    simp[rfs3,roLe]
   ·rw[if_pos h3,zhY hkn h3]at hfr
    rw[hfr]
    rw[h3]at hah
    have hwo:=zge k.line [c] hkl (by simp)
    have hset:=zd5 Lk.enc 4 (fun _=>rfl) hi (k:=3) (by decide) (.sl (withoutP k.line [c]).length (intsE (withoutP k.line [c]))) ⟨k.name,k.holder,k.token,withoutP k.line [c]⟩ (by rw[he];rfl)
    have hwl:(intsE (withoutP k.line [c])).take ((withoutP k.line [c]).length*1)=intsE (withoutP k.line [c]):=List.take_of_length_le (by rw[zao];omega)
    repeat'(first|(with_reducible first|refine zad _ _ ?_|refine zaE ?_|refine zaF ?_)|rw[zaB]|simp only[hm1,h1',hat1,hat3,hset,hwl,rowI,zao,←List.map_drop,List.map_cons,zaf,zan,zY,Int.reduceEq,Int.reduceBEq,Int.reduceBNe,Nat.reduceSub,Nat.reduceEqDiff,Nat.reduceAdd,Nat.reduceMul,Nat.reduceLeDiff,Nat.reduceLT,Nat.reduceBEq,reduceCtorEq]|((first|((try refine zaY ?_);apply za6)|(apply zba;intro _));(solve|exact(hco)|exact(hfi)|exact(hah)|exact(hwo)|(refine CallOK.le (hco) ?_;exact zM)|(refine CallOK.le (hfi) ?_;exact zM)|(refine CallOK.le (hah) ?_;exact zM)|(refine CallOK.le (hwo) ?_;exact zM)|fail);try case hn=>rfl)|refine zaa ?_|refine zab (fun hb=> ?_) (fun hb=> ?_)|(refine And.intro ?_ ?_;exact zI)|refine And.intro (fun hg=> ?_) (fun hg=> ?_)|exact zC|fail)
    simp[rfs3,roLe]
  ·have h1':(k.holder !=c)=false:=by rw[bne,h1];rfl
   rw[if_pos h1]at hfr
   rw[hfr]
   unfold passP
   cases hk:k.line with
   |nil=>
    rw[hk]at hat1 hat3
    simp only[List.length_nil,List.flatMap_nil]at hat1 hat3
    have hE:=znd Lk.enc 4 (fun _=>rfl) hi
    have hE2:((locksE l).drop ((posL l name+1)*4)).take ((l.length - (posL l name+1))*4)=(locksE l).drop ((posL l name+1)*4):=List.take_of_length_le (by rw[List.length_drop,zaf];omega)
    have hz:(((0:Nat):Int)==0)=true:=rfl
    have hw:IntKind.i64.wrap ((posL l name:Int)+1)=((posL l name+1:Nat):Int):=by rw[wrap64 (by omega) (by omega)];omega
    have hq1:((locksE l).take (posL l name*4)).length=posL l name*4:=by rw[List.length_take,zaf];omega
    have hq2:((locksE l).drop ((posL l name+1)*4)).length=(l.length - (posL l name+1))*4:=by rw[List.length_drop,zaf];omega
    have hB1:(posL l name*56≤2^47)=True:=eq_true (by omega)
    have hB2:((posL l name+(l.length - (posL l name+1)))*56≤2^47)=True:=eq_true (by omega)
    have hB3:(((posL l name+1:Nat):Int)≤(l.length:Int))=True:=eq_true (by omega)
    have hB4:((posL l name:Int)≤(l.length:Int))=True:=eq_true (by omega)
    have hB5:(0≤((posL l name+1:Nat):Int))=True:=eq_true (by omega)
    have hTT:((locksE l).take (posL l name*4)).take (posL l name*4)=(locksE l).take (posL l name*4):=List.take_of_length_le (by omega)
    have hTA:(locksE l).take (posL l name*4)++(locksE l).drop ((posL l name+1)*4)=locksE (l.eraseIdx (posL l name)):=hE.symm
    have hle:(l.eraseIdx (posL l name)).length=posL l name+(l.length - (posL l name+1)):=by rw[List.length_eraseIdx_of_lt hi];omega
    repeat'(first|(with_reducible first|refine zad _ _ ?_|refine zaE ?_|refine zaF ?_)|rw[zaB]|simp only[hm1,h1',hat1,hat3,hz,hw,hE2,hq1,hq2,hB1,hB2,hB3,hB4,hB5,hTT,hTA,Int.le_refl,←List.map_drop,List.map_cons,zaf,zan,zY,Int.reduceEq,Int.reduceBEq,Int.reduceBNe,Nat.reduceSub,Nat.reduceEqDiff,Nat.reduceAdd,Nat.reduceMul,Nat.reduceLeDiff,Nat.reduceLT,Nat.reduceBEq,reduceCtorEq]|((first|((try refine zaY ?_);apply za6)|(apply zba;intro _));(solve|exact(hco)|exact(hfi)|(refine CallOK.le (hco) ?_;exact zM)|(refine CallOK.le (hfi) ?_;exact zM)|fail);try case hn=>rfl)|refine zaa ?_|refine zab (fun hb=> ?_) (fun hb=> ?_)|(refine And.intro ?_ ?_;exact zI)|refine And.intro (fun hg=> ?_) (fun hg=> ?_)|exact zC|fail)
    simp[rfs3,roLe,hle]
   |cons x rest=>
    rw[hk]at hat1 hat3
    have hz:(((rest.length+1:Nat):Int)==0)=false:=by simp;omega
    have hrl:rest.length<2^30:=by rw[hk,List.length_cons]at hkl;omega
    have hn1:rest.length+1 - 1=rest.length:=rfl
    have hT:(intsE rest).take rest.length=intsE rest:=List.take_of_length_le (by rw[zao];exact Nat.le_refl _)
    have hBr:(rest.length*8≤2^47)=True:=eq_true (by omega)
    have hnx:=List.nodup_cons.1 (hk▸hkn)
    have hset1:=zd5 Lk.enc 4 (fun _=>rfl) hi (k:=1) (by decide) (iD x) ⟨k.name,x,k.token,x::rest⟩ (by rw[he,←hk];rfl)
    obtain⟨l1,hl1⟩:∃l1,l1=l.set (posL l name) ⟨k.name,x,k.token,x::rest⟩:=⟨_,rfl⟩
    have hi1:posL l name<l1.length:=by rw[hl1];simpa using hi
    have hg1:l1[posL l name]=⟨k.name,x,k.token,x::rest⟩:=by simp[hl1]
    have hset2:=zd5 Lk.enc 4 (fun _=>rfl) hi1 (k:=3) (by decide) (.sl rest.length (intsE rest)) ⟨k.name,x,k.token,rest⟩ (by rw[hg1];rfl)
    obtain⟨l2,hl2⟩:∃l2,l2=l1.set (posL l name) ⟨k.name,x,k.token,rest⟩:=⟨_,rfl⟩
    have hi2:posL l name<l2.length:=by rw[hl2];simpa using hi1
    have hg2:l2[posL l name]=⟨k.name,x,k.token,rest⟩:=by simp[hl2]
    have hset3:=zd5 Lk.enc 4 (fun _=>rfl) hi2 (k:=2) (by decide) (iD (t+1)) ⟨k.name,x,t+1,rest⟩ (by rw[hg2];rfl)
    have hl3:l2.set (posL l name) ⟨k.name,x,t+1,rest⟩=l.set (posL l name) ⟨k.name,x,t+1,rest⟩:=by rw[hl2,hl1,List.set_set,List.set_set]
    rw[←hl1]at hset1
    rw[←hl2]at hset2
    rw[hl3]at hset3
    have hat3':=zaN hi1
    rw[hg1]at hat3'
    have hat3':(locksE l1).drop (posL l name*4+3)= .sl (x::rest).length (intsE (x::rest))::locksE (l1.drop (posL l name+1)):=by rw[←List.drop_drop,hat3'];rfl
    have hll1:l1.length=l.length:=by rw[hl1,List.length_set]
    repeat'(first|refine zq (I hm1 (I h1' (I hat1 (I hat3 (I hat3' (I hz (I hwt (I hset1 (I hset2 (I hset3 (I @zao (I hn1 (I hT (I hBr (I hll1 (I @zmd (I @List.map_cons.{0,0} (I @zaf @zan)))))))))))))))))) ?_|exact zd (I hm1 (I h1' (I hat1 (I hat3 (I hat3' (I hz (I hwt (I hset1 (I hset2 (I hset3 (I @zao (I hn1 (I hT (I hBr (I hll1 (I @zmd (I @List.map_cons.{0,0} (I @zaf @zan))))))))))))))))))|refine zc (hco) ?_|refine zg (hco) ?_|refine zc (hfi) ?_|refine zg (hfi) ?_|refine zaa ?_|refine zab (fun hb=> ?_) (fun hb=> ?_)|(refine And.intro ?_ ?_;exact zI)|refine And.intro (fun hg=> ?_) (fun hg=> ?_)|exact zC|fail)
    simp[rfs3,roLe]
end Go.Proofs.YtbpmcjeeeiffhaaGreat
namespace Go.Proofs.YtbpmcjeeeiffhaaGreat
open Go.Pk
set_option maxRecDepth 100000
set_option linter.unusedSimpArgs false
set_option linter.unusedVariables false
theorem zq6 {l m:List Lk} (h:SL l) (hs:(m.map Lk.name).Sublist (l.map Lk.name)):SL m:=by
 have h1:(l.map Lk.name).Pairwise fun a b=>bLess a b=true:=List.pairwise_map.2 h
 exact List.pairwise_map.1 (h1.sublist hs)
theorem zqt {gone:List Int} {l:List Lk}:(l.map (lockWithout gone)).map Lk.name=l.map Lk.name:=by rw[List.map_map];rfl
theorem zqu {l:List Lk} (hs:SL l) {i:Nat} (hi:i<l.length):findL l l[i].name=some l[i]∧posL l l[i].name=i:=by
 have hself:∀x:Lk,isL x.name x=true:=fun x=>by simp[isL]
 have hne:∀{a b:Nat} (ha:a<l.length) (hb:b<l.length),a<b→l[a].name.toList=l[b].name.toList→False:=fun ha hb hab h=>by
  have:=List.pairwise_iff_getElem.1 hs _ _ ha hb hab
  simp only[bLess,h,zkB]at this
  cases this
 have key:∀{j:Nat} (hj:j<l.length),isL l[i].name l[j]=true→j=i:=fun {j} hj h=>by
  simp only[isL,beq_iff_eq]at h
  rcases Nat.lt_trichotomy j i with h1|h1|h1
  ·exact(hne hj hi h1 h).elim
  ·exact h1
  ·exact(hne hi hj h1 h.symm).elim
 cases hf:findL l l[i].name with
 |none=>exact absurd (hself l[i]) (List.find?_eq_none.1 hf _ (List.getElem_mem hi))
 |some x=>
  obtain⟨⟨hp,he⟩,hx⟩:=zcc hs hf
  have:=key hp (by rw[he];exact hx)
  refine⟨?_,this⟩
  rw[←he]
  simp only[this]
theorem zqv {gone:List Int} {k:Lk} (h:k.line.length<2^30∧k.line.Nodup):(lockWithout gone k).line.length<2^30∧(lockWithout gone k).line.Nodup:=
 ⟨Nat.lt_of_le_of_lt (List.length_filter_le ..) h.1,h.2.filter _⟩
set_option maxHeartbeats 4000000 in
theorem zoN (l:List Lk) (hs:SL l) (hl:l.length<2^30) (hll:∀k∈l,k.line.length<2^30∧k.line.Nodup) (gone:List Int) (hg:gone.length<2^30) (t:Int) (ht:0≤t∧t≤2^61):
  CallOK Tryz.prog 144 [.f (al l.length (locksE l)), .f (al gone.length (intsE gone)), .f (ai t)]
  (fun r o=>r=[.one (.own 4 (dropP l gone t).1.length (locksE (dropP l gone t).1) false),ri (dropP l gone t).2]∧o=[]):=by
 refine zae zat mixed (T:=Ty) (n:=72) Tryz.func144 (c:=Tryz.f144.body.getD .skip) rfl Tryz.results144 Tryz.ntmps144 Tryz.call144 ?_
 simp only[Tryz.f144,Option.getD]
 have hco:=zeH l hl (fun k hk=>(hll k hk).1)
 repeat'(first|refine zq (I @zaf @zan) ?_|exact zd (I @zaf @zan)|refine zc (hco) ?_|refine zg (hco) ?_|refine zaa ?_|refine zab (fun hb=> ?_) (fun hb=> ?_)|(refine And.intro ?_ ?_;exact zI)|refine And.intro (fun hg=> ?_) (fun hg=> ?_)|exact zC|fail)
 refine zaq (τ:=Nat) (fun i=>⟨[al l.length (locksE l),al gone.length (intsE gone),ai t,dd,dd,dd,dd,dd, .one (.own ⟨8,1,1⟩ 0 l.length),ai i,dd,dd,dd,dd,dd,dd,dd,dd,dd,dd,dd,dd,dd,dd,dd,dd,dd,dd,dd,dd,dd,dd,dd,dd,dd,dd,dd,dd,dd,dd,dd,dd,dd,dd,dd,dd,dd,dd,dd,dd,dd,dd,dd,dd,dd,dd,dd,dd,dd,dd,dd,dd,dd,dd,dd,dd,dd,dd,dd,dd,dd,dd],[(16,⟨2,[]⟩),(8,{next:=2,l:=[none,some {e:=1,var:=false,fz:=false,sz:=4,cells:=(locksE (curL l gone i)).map C.d}]}),(31,⟨2,[]⟩)]⟩)
  (fun i=>i≤l.length) (fun _=>()) (fun i=>l.length - i) 0
  (Gh.canon [8] [31] [] zK rfl rfl) (Nat.zero_le _) ?_
 intro i hi0 hF K hK
 refine zw ?_
 refine zab (fun hlt=> ?_) (fun hge=> ?_)
 ·have hi:i<l.length:=by simpa using hlt
  obtain⟨hic,hce⟩:=zqp (gone:=gone) hi
  have hat:=zaN hic
  rw[hce]at hat
  have hat2:(locksE (curL l gone i)).drop (i*4+3)= .sl l[i].line.length (intsE l[i].line)::locksE ((curL l gone i).drop (i+1)):=by rw[←List.drop_drop,hat];rfl
  have hw:=zar hi (by omega)
  have hwo:=zge l[i].line gone (hll _ (List.getElem_mem hi)).1 hg
  have hset:=zd5 Lk.enc 4 (fun _=>rfl) hic (k:=3) (by decide) (.sl (withoutP l[i].line gone).length (intsE (withoutP l[i].line gone))) (lockWithout gone l[i]) (by rw[hce];rfl)
  rw[zni hi]at hset
  have hwl:(intsE (withoutP l[i].line gone)).take ((withoutP l[i].line gone).length*1)=intsE (withoutP l[i].line gone):=List.take_of_length_le (by rw[zao];omega)
  repeat'(first|(with_reducible first|refine zad _ _ ?_|refine zaE ?_|refine zaF ?_)|rw[zaB]|simp only[hat2,hset,hwl,rowI,←List.map_drop,List.map_cons,zaf,zoG hi0,zY,Int.reduceEq,Int.reduceBEq,Int.reduceBNe,Nat.reduceSub,Nat.reduceEqDiff,Nat.reduceAdd,Nat.reduceMul,Nat.reduceLeDiff,Nat.reduceLT,Nat.reduceBEq,reduceCtorEq]|((first|((try refine zaY ?_);apply za6)|(apply zba;intro _));(solve|exact(hwo)|(refine CallOK.le (hwo) ?_;exact zM)|fail);try case hn=>rfl)|refine zaa ?_|refine zab (fun hb=> ?_) (fun hb=> ?_)|(refine And.intro ?_ ?_;exact zI)|refine And.intro (fun hg=> ?_) (fun hg=> ?_)|exact zC|fail)
  exact hK _ (i+1) (Gh.canon [8] [] [] (by simp only[hw,zah,zau,zai,zak,zal,zam,List.set_cons_zero,List.set_cons_succ,and_true,true_and,Int.natCast_zero,Int.cast_ofNat_Int,D.v.injEq,Value.int.injEq];try(repeat'(first|rfl|omega|with_reducible apply And.intro))) rfl rfl) hi rfl (by omega)
 ·have hi:i=l.length:=by
   have:¬(i:Int)<l.length:=by simpa using hge
   omega
  rw[hi,zoH]
  have hdP:dropP l gone t=dropR gone t (l.map (lockWithout gone)) 0:=rfl
  rw[hdP]
  obtain⟨W,hW⟩:∃W,W=l.map (lockWithout gone):=⟨_,rfl⟩
  have hWl:W.length=l.length:=by rw[hW,List.length_map]
  have hWn:W.map Lk.name=l.map Lk.name:=by rw[hW];exact zqt
  have hWg:∀(j:Nat) (hj:j<l.length),W[j]'(by omega)=lockWithout gone l[j]:=fun j hj=>by simp[hW]
  have hWk:∀k∈W,k.line.length<2^30∧k.line.Nodup:=fun k hk=>by
   rw[hW]at hk
   obtain⟨k0,hk0,rfl⟩:=List.mem_map.1 hk
   exact zqv (hll k0 hk0)
  rw[←hW]
  clear hdP hW
  repeat'(first|refine zq0 ?_|exact zd0|refine zaa ?_|refine zab (fun hb=> ?_) (fun hb=> ?_)|(refine And.intro ?_ ?_;exact zI)|refine And.intro (fun hg=> ?_) (fun hg=> ?_)|exact zC|fail)
  refine zaq (τ:=List Lk×Nat×Int) (fun q=>⟨[al l.length (locksE l),al gone.length (intsE gone),ai t,dd,dd,dd,dd,dd, .one (.own ⟨8,1,1⟩ 0 (q.1++W.drop q.2.1).length),dd,ai q.2.2,ai q.2.1,dd,dd,dd,dd,dd,dd,dd,dd,dd,dd,dd,dd,dd,dd,dd,dd,dd,dd,dd,dd,dd,dd,dd,dd,dd,dd,dd,dd,dd,dd,dd,dd,dd,dd,dd,dd,dd,dd,dd,dd,dd,dd,dd,dd,dd,dd,dd,dd,dd,dd,dd,dd,dd,dd,dd,dd,dd,dd,dd,dd],[(16,⟨2,[]⟩),(8,{next:=2,l:=[none,some {e:=1,var:=false,fz:=false,sz:=4,cells:=(locksE (q.1++W.drop q.2.1)).map C.d}]}),(31,⟨2,[]⟩),(12,⟨2,[]⟩),(62,⟨2,[]⟩)]⟩)
   (fun q=>q.2.1≤l.length∧(0≤q.2.2∧q.2.2≤q.2.1)∧(q.1.map Lk.name).Sublist ((l.take q.2.1).map Lk.name)∧∀k∈q.1,k.line.length<2^30∧k.line.Nodup)
   (fun q=>(q.1++(dropR gone t (W.drop q.2.1) q.2.2).1,(dropR gone t (W.drop q.2.1) q.2.2).2)) (fun q=>l.length - q.2.1) ([],0,0)
   (Gh.canon [8] [12,62] [] (by simp only[List.drop_zero,List.nil_append,hWl,zah,zau,zai,zak,zal,zam,List.set_cons_zero,List.set_cons_succ,and_true,true_and,Int.natCast_zero,Int.cast_ofNat_Int,D.v.injEq,Value.int.injEq];try(repeat'(first|rfl|omega|with_reducible apply And.intro))) rfl rfl) ⟨Nat.zero_le _,⟨Int.le_refl _,Int.le_refl _⟩,List.nil_sublist _,by simp⟩ ?_
  rintro⟨L,i,g⟩ ⟨j1,j2,j3,j4⟩ hF K hK
  simp only[List.drop_zero,List.nil_append]at j1 j2 j3 j4 hF hK⊢
  refine zw ?_
  refine zab (fun hlt=> ?_) (fun hge=> ?_)
  ·have hi:i<l.length:=by simpa using hlt
   have hat:=zaN hi
   have hat1:(locksE l).drop (i*4+1)=iD l[i].holder::iD l[i].token:: .sl l[i].line.length (intsE l[i].line)::locksE (l.drop (i+1)):=by rw[←List.drop_drop,hat];rfl
   have hin:=zq4 gone (by omega) l[i].holder
   have hw:=zar hi (by omega)
   have hiw:i<W.length:=by omega
   have hgw:=hWg i hi
   have hdr:=zlm (gone:=gone) (t:=t) (g:=g) hiw
   rw[hgw]at hdr
   have hdc:W.drop i=lockWithout gone l[i]::W.drop (i+1):=by rw[List.drop_eq_getElem_cons hiw,hgw]
   have hL:L.length≤i:=by have:=j3.length_le;simp only[List.length_map,List.length_take]at this;omega
   have htk:(l.take (i+1)).map Lk.name=(l.take i).map Lk.name++[l[i].name]:=by rw[←List.take_append_getElem hi,List.map_append];rfl
   cases hh:hasI gone l[i].holder
   ·rw[hh]at hin
    rw[show hasI gone (lockWithout gone l[i]).holder=false from hh,if_neg (by simp)]at hdr
    have hMe:L++W.drop i=L++[lockWithout gone l[i]]++W.drop (i+1):=by rw[hdc];simp
    obtain⟨M,hM⟩:∃M,M=L++W.drop i:=⟨_,rfl⟩
    rw[←hM]
    rw[hMe]at hM
    repeat'(first|refine zq (I hat (I hat1 (I @List.cons_append.{0} (I @List.nil_append.{0} @zaf)))) ?_|exact zd (I hat (I hat1 (I @List.cons_append.{0} (I @List.nil_append.{0} @zaf))))|refine zc (hin) ?_|refine zg (hin) ?_|refine zaa ?_|refine zab (fun hb=> ?_) (fun hb=> ?_)|(refine And.intro ?_ ?_;exact zI)|refine And.intro (fun hg=> ?_) (fun hg=> ?_)|exact zC|fail)
    rw[hM]
    refine hK _ (L++[lockWithout gone l[i]],i+1,g) (Gh.canon [8] [] [] (by simp only[hw,zah,zau,zai,zak,zal,zam,List.set_cons_zero,List.set_cons_succ,and_true,true_and,Int.natCast_zero,Int.cast_ofNat_Int,D.v.injEq,Value.int.injEq];try(repeat'(first|rfl|omega|with_reducible apply And.intro))) rfl rfl) ⟨hi,⟨j2.1,by simp only;omega⟩, ?_, ?_⟩ ?_ (by simp only;omega)
    ·simp only[htk,List.map_append,List.map_cons,List.map_nil]
     exact j3.append (List.Sublist.refl _)
    ·intro k hk
     rcases List.mem_append.1 hk with hk|hk
     ·exact j4 k hk
     ·rw[List.mem_singleton.1 hk];exact zqv (hll _ (List.getElem_mem hi))
    ·simp only;rw[hdr];simp
   ·rw[hh]at hin
    rw[show hasI gone (lockWithout gone l[i]).holder=true from hh,if_pos rfl]at hdr
    -- the row,as it stands
    obtain⟨M,hM⟩:∃M,M=L++W.drop i:=⟨_,rfl⟩
    have hMl:M.length=L.length+(l.length - i):=by rw[hM,List.length_append,List.length_drop,hWl]
    have hMs:SL M:=zq6 hs (by
     rw[hM,List.map_append,List.map_drop,hWn,←List.map_drop]
     have:=j3.append (List.Sublist.refl ((l.drop i).map Lk.name))
     rwa[show(l.take i).map Lk.name++(l.drop i).map Lk.name=l.map Lk.name from by rw[←List.map_append,List.take_append_drop]]at this)
    have hMk:∀k∈M,k.line.length<2^30∧k.line.Nodup:=fun k hk=>by
     rw[hM]at hk
     rcases List.mem_append.1 hk with hk|hk
     ·exact j4 k hk
     ·exact hWk k (List.mem_of_mem_drop hk)
    have hMi:L.length<M.length:=by omega
    have hMg:M[L.length]=lockWithout gone l[i]:=by
     subst hM
     rw[List.getElem_append_right (Nat.le_refl _)]
     simp only[Nat.sub_self,List.getElem_drop,Nat.add_zero]
     exact hgw
    obtain⟨hf1,hf2⟩:=zqu hMs hMi
    rw[hMg]at hf1 hf2
    have hf1:findL M l[i].name=some (lockWithout gone l[i]):=hf1
    have hf2:posL M l[i].name=L.length:=hf2
    have hfr:=zkF M hMs (by omega) hMk l[i].name l[i].holder (t+g) (by omega)
    have hwt:IntKind.i64.wrap (t+g)=t+g:=wrap64 (by omega) (by omega)
    have hfp:freeP M l[i].name l[i].holder (t+g)=((passP M L.length (lockWithout gone l[i]) (t+g)).1,(passP M L.length (lockWithout gone l[i]) (t+g)).2,0):=by
     unfold freeP
     rw[hf1,hf2]
     simp only
     rw[if_pos (show((lockWithout gone l[i]).holder==l[i].holder)=true from by simp[lockWithout])]
    rw[hfp]at hfr
    rw[←hM]
    clear hlt
    cases hline:(lockWithout gone l[i]).line with
    |nil=>
     rw[hline]at hdr
     simp only at hdr
     have hp:passP M L.length (lockWithout gone l[i]) (t+g)=(M.eraseIdx L.length,0):=by unfold passP;rw[hline]
     rw[hp]at hfr
     have hg0:IntKind.i64.wrap (g+0)=g:=by rw[Int.add_zero];exact wrap64 (by omega) (by omega)
     have hMe:M.eraseIdx L.length=L++W.drop (i+1):=by rw[hM,List.eraseIdx_append_of_length_le (Nat.le_refl _),Nat.sub_self,hdc];rfl
     rw[hMe]at hfr
     repeat'(first|refine zq (I hat (I hat1 (I hwt (I @List.cons_append.{0} (I @List.nil_append.{0} (I @zaf @zan)))))) ?_|exact zd (I hat (I hat1 (I hwt (I @List.cons_append.{0} (I @List.nil_append.{0} (I @zaf @zan))))))|refine zc (hin) ?_|refine zg (hin) ?_|refine zc (hfr) ?_|refine zg (hfr) ?_|refine zaa ?_|refine zab (fun hb=> ?_) (fun hb=> ?_)|(refine And.intro ?_ ?_;exact zI)|refine And.intro (fun hg=> ?_) (fun hg=> ?_)|exact zC|fail)
     refine hK _ (L,i+1,g) (Gh.canon [8] [] [] (by simp only[hw,hg0,zah,zau,zai,zak,zal,zam,List.set_cons_zero,List.set_cons_succ,and_true,true_and,Int.natCast_zero,Int.cast_ofNat_Int,D.v.injEq,Value.int.injEq];try(repeat'(first|rfl|omega|with_reducible apply And.intro))) rfl rfl) ⟨hi,⟨j2.1,by simp only;omega⟩, ?_,j4⟩ ?_ (by simp only;omega)
     ·simp only[htk]
      exact j3.trans (List.sublist_append_left _ _)
     ·simp only;rw[hdr]
    |cons x rest=>
     rw[hline]at hdr
     simp only at hdr
     have hp:passP M L.length (lockWithout gone l[i]) (t+g)=(M.set L.length ⟨l[i].name,x,t+g+1,rest⟩,1):=by unfold passP;rw[hline];rfl
     rw[hp]at hfr
     have hg1:IntKind.i64.wrap (g+1)=g+1:=wrap64 (by omega) (by omega)
     have hMe:M.set L.length ⟨l[i].name,x,t+g+1,rest⟩=L++[⟨l[i].name,x,t+g+1,rest⟩]++W.drop (i+1):=by rw[hM,List.set_append_right _ _ (Nat.le_refl _),Nat.sub_self,hdc];simp
     rw[hMe]at hfr
     repeat'(first|refine zq (I hat (I hat1 (I hwt (I @List.cons_append.{0} (I @List.nil_append.{0} (I @zaf @zan)))))) ?_|exact zd (I hat (I hat1 (I hwt (I @List.cons_append.{0} (I @List.nil_append.{0} (I @zaf @zan))))))|refine zc (hin) ?_|refine zg (hin) ?_|refine zc (hfr) ?_|refine zg (hfr) ?_|refine zaa ?_|refine zab (fun hb=> ?_) (fun hb=> ?_)|(refine And.intro ?_ ?_;exact zI)|refine And.intro (fun hg=> ?_) (fun hg=> ?_)|exact zC|fail)
     refine hK _ (L++[⟨l[i].name,x,t+g+1,rest⟩],i+1,g+1) (Gh.canon [8] [] [] (by simp only[hw,hg1,zah,zau,zai,zak,zal,zam,List.set_cons_zero,List.set_cons_succ,and_true,true_and,Int.natCast_zero,Int.cast_ofNat_Int,D.v.injEq,Value.int.injEq];try(repeat'(first|rfl|omega|with_reducible apply And.intro))) rfl rfl) ⟨hi,⟨by simp only;omega,by simp only;omega⟩, ?_, ?_⟩ ?_ (by simp only;omega)
     ·simp only[htk,List.map_append,List.map_cons,List.map_nil]
      exact j3.append (List.Sublist.refl _)
     ·intro k hk
      rcases List.mem_append.1 hk with hk|hk
      ·exact j4 k hk
      ·rw[List.mem_singleton.1 hk]
       have:=zqv (gone:=gone) (hll _ (List.getElem_mem hi))
       rw[hline]at this
       exact⟨by have:=this.1;simp only[List.length_cons]at this⊢;omega,(List.nodup_cons.1 this.2).2⟩
     ·simp only;rw[hdr];simp[lockWithout]
  ·have hi:i=l.length:=by
    have:¬(i:Int)<l.length:=by simpa using hge
    omega
   subst hi
   have hd0:W.drop l.length=[]:=List.drop_eq_nil_of_le (by omega)
   rw[hd0]at hF⊢
   simp only[dropR,List.append_nil]at hF⊢
   have e1:L=(dropR gone t W 0).1:=congrArg Prod.fst hF
   have e2:g=(dropR gone t W 0).2:=congrArg Prod.snd hF
   rw[←e1,←e2]
   repeat'(first|refine zq0 ?_|exact zd0|refine zaa ?_|refine zab (fun hb=> ?_) (fun hb=> ?_)|(refine And.intro ?_ ?_;exact zI)|refine And.intro (fun hg=> ?_) (fun hg=> ?_)|exact zC|fail)
end Go.Proofs.YtbpmcjeeeiffhaaGreat
