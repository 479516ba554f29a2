import Derived.Test.YtliimajkpggbhaaGreatV
namespace Go.Proofs.YtliimajkpggbhaaGreat
open Go.Pk
set_option maxRecDepth 100000
set_option linter.unusedSimpArgs false
set_option linter.unusedVariables false
theorem zt7 (l:List LkD) (hl:l.length<2^62) (s:ByteArray):CallOK Tryz.prog 217 [.f (al l.length (zeL l)), .f (ast s)] (fun r o=>r=[ri (zev (isL s) (l.map LkD.k) 0)]∧o=[]):=by
 refine zh Tryz.func217 Tryz.results217 Tryz.ntmps217 Tryz.call217 ?_
 simp only[Tryz.f217,Option.getD]
 refine zL0 trivial ?_
 refine zai (τ:=Nat) (fun i=>⟨(al l.length (zeL l)::ast s::dq3 (ai i::zxT [])),[]⟩)
  (fun i=>i≤l.length) (fun i=>zev (isL s) ((l.drop i).map LkD.k) i) (fun i=>l.length - i) 0
  (Gh.canon [] [] [] zK rfl rfl) (Nat.zero_le _) ?_
 intro i hi0 hF K hK
 rw[List.drop_zero]at hF
 refine zw ?_
 refine zaa (fun hlt=> ?_) (fun hge=> ?_)
 ·have hi:i<l.length:=by simpa using hlt
  have hat:=zqu hi
  have hw:=zal hi hl
  have hq:zev (isL s) ((l.drop i).map LkD.k) i=if(l[i].k.name.toList==s.toList)=true then(i:Int)else zev (isL s) ((l.drop (i+1)).map LkD.k) ((i+1:Nat):Int):=by
   rw[List.drop_eq_getElem_cons hi,List.map_cons,zev];rfl
  rw[hq]at hF
  repeat'(first|exact zC|refine zq (I hat (I @zeq zca)) ?_|(apply zaa<;>intro hb)|(apply I;exact zI)|(apply I<;>intro hg))
  ·rw[if_pos hb]at hF
   have hF:(i:Int)=zev (isL s) (l.map LkD.k) 0:=hF
   rw[←hF]
  ·rw[if_neg (by rw[hb];simp)]at hq
   exact hK _ (i+1) (Gh.canon [] [] [] (zk hw) rfl rfl) hi hq.symm (by omega)
 ·have hi:i=l.length:=by
   have:¬(i:Int)<l.length:=by simpa using hge
   omega
  rw[hi,List.drop_length]at hF
  have hF:(-1:Int)=zev (isL s) (l.map LkD.k) 0:=hF
  rw[←hF]
  exact zW0 trivial
theorem zhP {l:List Lk} (hs:SL l) (s:ByteArray):zev (isL s) l 0=match zdU l s with|none=> -1|some _=>(zbH l s:Int):=by
 rcases zi7 (isL s) l 0 with⟨h1,h2⟩|⟨k,hk,h2,h3,h4⟩
 ·have:zdU l s=none:=List.find?_eq_none.2 fun x hx=>by rw[h1 x hx];simp
  rw[this];exact h2
 ·cases hf:zdU l s with
  |none=>exact absurd h3 (List.find?_eq_none.1 hf _ (List.getElem_mem hk))
  |some x=>
   obtain⟨⟨hp,he⟩,hx⟩:=zd4 hs hf
   have hkp:k=zbH l s:=by
    have hne:∀{i j:Nat} (hi:i<l.length) (hj:j<l.length),i<j→isL s l[i]=true→isL s l[j]=true→False:=fun hi hj hij h1 h2=>by
     have:=List.pairwise_iff_getElem.1 hs _ _ hi hj hij
     simp only[isL,beq_iff_eq]at h1 h2
     simp only[zeK,h1,h2,zqn]at this
     cases this
    rcases Nat.lt_trichotomy k (zbH l s)with h|h|h
    ·exact(hne hk hp h h3 (by rw[he];exact hx)).elim
    ·exact h
    ·exact(hne hp hk h (by rw[he];exact hx) h3).elim
   have h2':zev (isL s) l 0=((0+k:Nat):Int):=h2
   rw[h2']
   show((0+k:Nat):Int)=(zbH l s:Int)
   omega
theorem zrB {l:List Lk} {name:ByteArray} {c t:Int} {w:Bool} (hf:zdU l name=none):za5 l name c t w=if decide ((l.length:Int)≥4)=true then([],0,5)else(l.take (zbH l name)++⟨name,c,t+1,[]⟩::l.drop (zbH l name),0,0):=by unfold za5;rw[hf]
theorem zn1 {α:Type} {l:List α} {j:Nat} {y:α} (hj:j≤l.length):(l.take j++y::l.drop j).length=l.length+1:=by
 rw[List.length_append,List.length_take,List.length_cons,List.length_drop];omega
theorem zt8 {α:Type} {l:List α} {j i:Nat} {y:α} (hj:j≤l.length) (hi:i<j):(l.take j++y::l.drop j)[i]'(by rw[zn1 hj];omega)=l[i]:=by
 rw[List.getElem_append_left (by rw[List.length_take];omega),List.getElem_take]
theorem zrC {α:Type} {l:List α} {j:Nat} {y:α} (hj:j≤l.length) (h0:0<j):(l.take j++y::l.drop j).set j (l[j - 1]'(by omega))=l.take (j - 1)++(l[j - 1]'(by omega))::l.drop (j - 1):=by
 rw[List.set_append_right _ _ (by rw[List.length_take];omega)]
 rw[show j - (l.take j).length=0 by rw[List.length_take];omega,List.set_cons_zero]
 rw[show l.take j=l.take (j - 1)++[l[j - 1]'(by omega)] by
  rw[List.take_append_getElem (by omega),show j - 1+1=j by omega]]
 rw[List.append_assoc]
 congr 1
 rw[List.drop_eq_getElem_cons (show j - 1<l.length by omega),show j - 1+1=j by omega]
 rfl
theorem zt9 {α:Type} {l:List α} {j:Nat} {y x:α} (hj:j≤l.length):(l.take j++y::l.drop j).set j x=l.take j++x::l.drop j:=by
 rw[List.set_append_right _ _ (by rw[List.length_take];omega),show j - (l.take j).length=0 by rw[List.length_take];omega,List.set_cons_zero]
abbrev zDT:Lk:=⟨.empty,0,0,[]⟩
set_option maxHeartbeats 4000000 in
theorem zua (l:List Lk) (hs:SL l) (hl:l.length<2^30) (hll:∀k∈l,k.line.length<2^30) (name:ByteArray) (c t:Int) (ht:0≤t∧t<2^62) (w:Bool) (hf:zdU l name=none):
  CallOK Tryz.prog 207 [.f (al l.length (zam l)), .f (ast name), .f (ai c), .f (ai t), .f (ab w)]
  (fun r o=>r=[.one (.own 4 (za5 l name c t w).1.length (zam (za5 l name c t w).1) false),ri (za5 l name c t w).2.1,ri (za5 l name c t w).2.2]∧o=[]):=by
 refine CallOK.nil ?_
 refine zh Tryz.func207 Tryz.results207 Tryz.ntmps207 Tryz.call207 ?_
 simp only[Tryz.f207,Option.getD]
 have hco:=zi8 l hl hll
 have hfi:=zj4 l (by omega) name
 rw[zhP hs,hf]at hfi
 simp only at hfi
 rw[zrB hf]
 have hwt:IntKind.i64.wrap (t+1)=t+1:=wrap64 (by omega) (by omega)
 have hm1:decide ((-1:Int)<0)=true:=rfl
 cases h4:decide ((l.length:Int)≥4)
 ·rw[if_neg (by simp)]
  have hlt4:l.length<4:=by simp at h4;omega
  have hp:=ztM (p:=fun x:Lk=>zeK x.name name) (l:=l)
  refine zL (I hm1 (I h4 (I @zah @zaF))) (I (hco) (hfi)) ?_
  refine zx3 (τ:=Unit) (fun _=>⟨(dd::ast name::ai c::ai t::dq9 (.one (.own ⟨13,1,1⟩ 0 l.length)::dd::ai (zbH l name:Int)::zxW (zez (zez [])))),[(20,⟨2,[]⟩),(13,⟨2,[none,roq 1 4 (zam l)]⟩)]⟩) (fun _=>True) (fun _ _=> ?_) (fun Kx hKx=> ?_)
  ·have hlz:zam l++[D.v (.string .empty),D.v (.int .i64 0),D.v (.int .i64 0), .sl 0 []]=zam (l.take l.length++zDT::l.drop l.length):=by rw[List.take_length,List.drop_length,zgv];rfl
   have hw1:IntKind.i64.wrap (((l.length+1:Nat):Int) - 1)=(l.length:Int):=by rw[wrap64 (by omega) (by omega)];omega
   have hbig:((l.length+1)*48≤2^47)=True:=eq_true (by omega)
   refine zL0 (I @zah (I @zaF (I hlz (I hw1 hbig)))) ?_
   refine zai (τ:=Nat×Lk) (fun q=>⟨(dd::ast name::ai c::ai t::dq9 (.one (.own ⟨13,1,1⟩ 0 (l.length+1))::dd::ai (zbH l name:Int)::ai q.1::zzO (zez (zez [])))),[(20,⟨2,[]⟩),(13,⟨2,[none,roq 1 4 (zam (l.take q.1++q.2::l.drop q.1))]⟩),(46,⟨2,[]⟩)]⟩)
    (fun q=>zbH l name≤q.1∧q.1≤l.length) (fun _=>()) (fun q=>q.1) (l.length,zDT) (Gh.canon [13] [] [] zK rfl rfl) ⟨hp,Nat.le_refl _⟩ ?_
   rintro⟨j,y⟩ ⟨hj1,hj2⟩ hF K hK
   simp only at hj1 hj2 hK⊢
   have hlen:=zn1 (l:=l) (j:=j) (y:=y) hj2
   by_cases hjp:zbH l name<j
   ·have hd:decide ((j:Int)>(zbH l name:Int))=true:=by simpa using hjp
    have hw:IntKind.i64.wrap ((j:Int) - 1)=((j - 1:Nat):Int):=by rw[wrap64 (by omega) (by omega)];omega
    have hat:=zbT (l:=l.take j++y::l.drop j) (i:=j - 1) (by omega)
    rw[zt8 hj2 (by omega)]at hat
    have hset:=zqo Lk.enc 4 (fun _=>rfl) (l:=l.take j++y::l.drop j) (i:=j) (by omega) (l[j - 1]'(by omega))
    rw[zrC hj2 (by omega)]at hset
    simp only[fillAt,List.map_cons,List.map_nil]at hset
    refine zL0 (I hd (I hw (I hat (I @zmd (I @List.map_cons.{0,0} (I @zah (I hlen (I @fillAt.eq_1 (I hset zca))))))))) ?_
    exact hK _ (j - 1,l[j - 1]'(by omega)) (Gh.canon [13] [] [] zK rfl rfl) ⟨by omega,by omega⟩ trivial (by simp only;omega)
   ·have hjj:j=zbH l name:=by omega
    have hd:decide ((j:Int)>(zbH l name:Int))=false:=by simp;omega
    have hset:=zqo Lk.enc 4 (fun _=>rfl) (l:=l.take j++y::l.drop j) (i:=j) (by omega) ⟨name,c,t+1,[]⟩
    rw[zt9 hj2]at hset
    simp only[fillAt,List.map_cons,List.map_nil,List.length_nil,List.flatMap_nil]at hset
    subst hjj
    refine zL0 (I hd (I hwt (I @zah (I hlen (I @fillAt.eq_1 hset))))) ?_
    have hp':zbH l name≤l.length:=hp
    simp[zrQ,zax]
    omega
  ·refine zai (τ:=Nat) (fun i=>⟨(dd::ast name::ai c::ai t::dq9 (.one (.own ⟨13,1,1⟩ 0 l.length)::dd::ai i::zxW (zez (zez [])))),[(20,⟨2,[]⟩),(13,⟨2,[none,roq 1 4 (zam l)]⟩)]⟩)
    (fun i=>i≤zbH l name) (fun _=>()) (fun i=>l.length - i) 0 (Gh.canon [13] [] [] zK rfl rfl) (Nat.zero_le _) ?_
   intro i hi0 hF K hK
   by_cases hi:i<l.length
   ·have hat:=zbT hi
    have hd:decide ((i:Int)<(l.length:Int))=true:=by simpa using hi
    have hw:=zal hi (by omega)
    repeat'(first|exact zC|refine zq (I hd (I hat (I @zmd (I @List.map_cons.{0,0} (I @zah zca))))) ?_|(apply zaa<;>intro hb)|(apply I;exact zI)|(apply I<;>intro hg))
    ·have hip:i<zbH l name:=Nat.lt_of_not_le fun h=>by
      have:Go.Op.bytesLess l[i].name.toList name.toList=false:=zo3 hi (zo4 hs name) h
      rw[hb]at this
      cases this
     exact hK _ (i+1) (Gh.canon [13] [] [] (zk hw) rfl rfl) hip rfl (by omega)
    ·have hip:i=zbH l name:=Nat.le_antisymm hi0 (Nat.le_of_not_lt fun h=>by
      have:Go.Op.bytesLess l[i].name.toList name.toList=true:=zo2 hi h
      rw[hb]at this
      cases this)
     subst hip
     exact hKx _ () (Gh.canon [13] [] [] zK rfl rfl) trivial
   ·have hd:decide ((i:Int)<(l.length:Int))=false:=by simpa using hi
    have hdr:(zam l).drop (i*4)=[]:=List.drop_eq_nil_of_le (by rw[zah];omega)
    refine zL0 (I hd (I hdr (I @zmd (I @List.map_nil.{0,0} @zah)))) ?_
    have hip:i=zbH l name:=by have:zbH l name≤l.length:=hp;omega
    subst hip
    exact hKx _ () (Gh.canon [13] [] [] zK rfl rfl) trivial
 ·rw[if_pos rfl]
  refine zL (I hm1 (I h4 (I @zah @zaF))) (I (hco) (hfi)) ?_
  simp[zrQ,zax]
theorem zlB {l:List Lk} {name:ByteArray} {c t:Int} {w:Bool} {k:Lk} (hf:zdU l name=some k) (hc:isClient c=true):za5 l name c t w=if(k.holder==c)=true then([],0,7)else if(!w)=true then([],0,8)else
  if hasI k.line c=true then(l,znS k.line c,10)else if decide ((k.line.length:Int)≥3)=true then([],0,5)else(l.set (zbH l name) ⟨k.name,k.holder,k.token,k.line++[c]⟩,k.line.length,10):=by
 unfold za5
 rw[hf]
 simp only
 split
 ·rfl
 ·split
  ·rfl
  ·split
   ·rfl
   ·rename_i h
    have hj:zj3 k.line c=if decide ((k.line.length:Int)≥3)=true then([],0,5)else(k.line++[c],(k.line.length:Int),0):=by
     unfold zj3
     rw[if_neg (by rw[hc];simp),if_neg h]
    rw[hj]
    cases decide ((k.line.length:Int)≥3)
    ·rfl
    ·rfl
set_option maxHeartbeats 4000000 in
theorem zue (l:List Lk) (hs:SL l) (hl:l.length<2^30) (hll:∀k∈l,k.line.length<2^30) (name:ByteArray) (c t:Int) (hc:isClient c=true) (w:Bool) (k:Lk) (hf:zdU l name=some k)
  (hx:(k.holder==c)=true∨w=false∨hasI k.line c=true∨decide ((k.line.length:Int)≥3)=true):
  CallOK Tryz.prog 207 [.f (al l.length (zam l)), .f (ast name), .f (ai c), .f (ai t), .f (ab w)]
  (fun r o=>r=[.one (.own 4 (za5 l name c t w).1.length (zam (za5 l name c t w).1) false),ri (za5 l name c t w).2.1,ri (za5 l name c t w).2.2]∧o=[]):=by
 refine CallOK.nil ?_
 refine zh Tryz.func207 Tryz.results207 Tryz.ntmps207 Tryz.call207 ?_
 simp only[Tryz.f207,Option.getD]
 have hco:=zi8 l hl hll
 have hfi:=zj4 l (by omega) name
 rw[zhP hs,hf]at hfi
 simp only at hfi
 have htk:=zlB (t:=t) (w:=w) hf hc
 generalize za5 l name c t w=R at htk⊢
 obtain⟨⟨hi,he⟩,hn⟩:=zd4 hs hf
 have hat:=zbT hi
 rw[he]at hat
 have hkl:=hll k (he▸List.getElem_mem hi)
 have hah:=zj7 k.line (by omega) c
 have hm1:decide ((zbH l name:Int)<0)=false:=by simp
 have hat1:(zam l).drop (zbH l name*4+1)=iD k.holder::iD k.token:: .sl k.line.length (zaQ k.line)::zam (l.drop (zbH l name+1)):=by rw[←List.drop_drop,hat];rfl
 have hat3:(zam l).drop (zbH l name*4+3)= .sl k.line.length (zaQ k.line)::zam (l.drop (zbH l name+1)):=by rw[←List.drop_drop,hat];rfl
 cases h1:(k.holder==c)
 ·cases w
  ·refine zL (I hm1 (I h1 (I hat1 (I @zmd (I @List.map_cons.{0,0} (I @List.drop_succ_cons.{0} (I @List.drop_zero.{0} (I @zah (I @zaF zca))))))))) (I (hco) (hfi)) ?_
   rw[if_neg (by rw[h1];simp),if_pos (show(!false)=true from rfl)]at htk
   rw[htk];simp[zrQ,zax]
  ·rw[if_neg (by rw[h1];simp),if_neg (by simp)]at htk
   cases h3:hasI k.line c
   ·rw[if_neg (by rw[h3];simp)]at htk
    have h4:decide ((k.line.length:Int)≥3)=true:=by rcases hx with h|h|h|h<;>simp_all
    rw[if_pos h4]at htk
    rw[h3]at hah
    refine zL (I hm1 (I h1 (I h3 (I h4 (I hat1 (I hat3 (I @zmd (I @List.map_cons.{0,0} (I @List.drop_succ_cons.{0} (I @List.drop_zero.{0} (I @zah (I @zaF zca)))))))))))) (I (hco) (I (hfi) (hah))) ?_
    rw[htk];simp[zrQ,zax]
   ·rw[if_pos h3]at htk
    rw[h3]at hah
    refine zL (I hm1 (I h1 (I h3 (I hat1 (I hat3 (I @zmd (I @List.map_cons.{0,0} (I @List.drop_succ_cons.{0} (I @List.drop_zero.{0} (I @zah (I @zaF zca))))))))))) (I (hco) (I (hfi) (hah))) ?_
    rw[htk];simp[zrQ,zax]
 ·refine zL (I hm1 (I h1 (I hat1 (I @zmd (I @List.map_cons.{0,0} (I @List.drop_succ_cons.{0} (I @List.drop_zero.{0} (I @zah (I @zaF zca))))))))) (I (hco) (hfi)) ?_
  rw[if_pos h1]at htk
  rw[htk];simp[zrQ,zax]
set_option maxHeartbeats 4000000 in
theorem zuf (l:List Lk) (hs:SL l) (hl:l.length<2^30) (hll:∀k∈l,k.line.length<2^30) (name:ByteArray) (c t:Int) (hc:isClient c=true) (w:Bool) (k:Lk) (hf:zdU l name=some k)
  (h1:(k.holder==c)=false) (hw:w=true) (h3:hasI k.line c=false) (h4:decide ((k.line.length:Int)≥3)=false):
  CallOK Tryz.prog 207 [.f (al l.length (zam l)), .f (ast name), .f (ai c), .f (ai t), .f (ab w)]
  (fun r o=>r=[.one (.own 4 (za5 l name c t w).1.length (zam (za5 l name c t w).1) false),ri (za5 l name c t w).2.1,ri (za5 l name c t w).2.2]∧o=[]):=by
 refine CallOK.nil ?_
 refine zh Tryz.func207 Tryz.results207 Tryz.ntmps207 Tryz.call207 ?_
 simp only[Tryz.f207,Option.getD]
 have htk:=zlB (t:=t) (w:=w) hf hc
 subst hw
 rw[if_neg (by rw[h1];simp),if_neg (by simp),if_neg (by rw[h3];simp),if_neg (by rw[h4];simp)]at htk
 rw[htk]
 obtain⟨⟨hi,he⟩,hn⟩:=zd4 hs hf
 have hco:=zuh l hl hll (zbH l name) hi
 rw[he]at hco
 have hkl:=hll k (he▸List.getElem_mem hi)
 have hah:=zj7 k.line (by omega) c
 rw[h3]at hah
 have hm1:decide ((zbH l name:Int)<0)=false:=by simp
 repeat'(first|exact zC|(with_reducible first|refine zbh 1 ?_|refine zaU 1 ?_|refine zaV 1 ?_)|refine zu0 ?_|(with_reducible first|refine zae _ _ ?_)|(apply zaa<;>intro hb)|(apply I;exact zI)|(apply I<;>intro hg))
 refine zbl (zfg _ _ (zsg zcQ mixed 1 (q:=5) (v1:=(al l.length (zam l)::ast name::ai c::ai t::ab true::dq5 (.one (.d (.v (.slice none 0 0)))::ai 0::ai 0::dq6 (al l.length (zam l)::zxV (zez (zez [])))))) (r1:=[]) rfl rfl rfl rfl (fun K hK=> ?_) ?_ ?_ rfl hco rfl (by decide) ?_))
 ·refine zL0 (I @List.take_succ_cons.{0} @List.take_zero.{0}) ?_
  exact hK
 ·exact trivial
 ·exact⟨trivial,trivial⟩
 rintro x ⟨a,cap,rfl⟩
 have hfi:=zt7 (zlE l (zbH l name) (.raw (.slice a k.line.length cap))) (by rw[zbZ];omega) name
 rw[zAu,zhP hs,hf,zbZ]at hfi
 simp only at hfi
 have hil:zbH l name<(zlE l (zbH l name) (.raw (.slice a k.line.length cap))).length:=by rw[zbZ];exact hi
 have hat:=zqu hil
 rw[zfm hi,if_pos rfl,he]at hat
 have htk:=zlC (l:=zlE l (zbH l name) (.raw (.slice a k.line.length cap)))
 rw[zbZ]at htk
 have hat1:(zeL (zlE l (zbH l name) (.raw (.slice a k.line.length cap)))).drop (zbH l name*4+1)=iD k.holder::iD k.token:: .raw (.slice a k.line.length cap)::zeL ((zlE l (zbH l name) (.raw (.slice a k.line.length cap))).drop (zbH l name+1)):=by rw[←List.drop_drop,hat];rfl
 have hat3:(zeL (zlE l (zbH l name) (.raw (.slice a k.line.length cap)))).drop (zbH l name*4+3)= .raw (.slice a k.line.length cap)::zeL ((zlE l (zbH l name) (.raw (.slice a k.line.length cap))).drop (zbH l name+1)):=by rw[←List.drop_drop,hat];rfl
 repeat'(first|exact zC|(with_reducible first|refine zbh 20 ?_|refine zaU 20 ?_|refine zaV 20 ?_)|refine zu (I hm1 (I h1 (I @List.drop_succ_cons.{0} (I @List.drop_zero.{0} (I hat1 (I htk (I @zmd (I @List.map_cons.{0,0} (I @zeq @zbZ))))))))) ?_|(with_reducible first|refine zae _ _ ?_)|refine zx (hfi) ?_|(apply zaa<;>intro hb)|(apply I;exact zI)|(apply I<;>intro hg))
 refine zbl (zfg _ _ (zpG zcQ mixed 5 ?_))
 refine zL0 (I @List.take_succ_cons.{0} (I @List.take_zero.{0} (I hat3 (I @zmd (I @List.map_cons.{0,0} (I @zeq @zbZ)))))) ?_
 refine⟨_,Gh.view (i:=87) (j:=5) rfl rfl, ?_⟩
 repeat'(first|exact zC|(with_reducible first|refine zbh 26 ?_|refine zaU 26 ?_|refine zaV 26 ?_)|refine zu (I @List.drop_succ_cons.{0} (I @List.drop_zero.{0} (I h4 (I hat3 (I @zmd (I @List.map_cons.{0,0} (I @zeq @zbZ))))))) ?_|(with_reducible first|refine zae _ _ ?_)|refine zx (hah) ?_|(apply zaa<;>intro hb)|(apply I;exact zI)|(apply I<;>intro hg))
 refine zbl (zfg _ _ (zpG zcQ mixed 7 ?_))
 refine zL0 (I @List.take_succ_cons.{0} (I @List.take_zero.{0} (I hat3 (I @zmd (I @List.map_cons.{0,0} (I @zeq @zbZ)))))) ?_
 refine⟨_,Gh.view (i:=114) (j:=5) rfl rfl, ?_⟩
 have hie:zaQ (k.line++[c])=zaQ k.line++[iD c]:=by simp[zaQ]
 have hset:=zgY LkD.enc 4 (fun _=>rfl) hil (k:=3) (by decide) (.sl (k.line.length+1) (zaQ k.line++[iD c])) (plain ⟨k.name,k.holder,k.token,k.line++[c]⟩)
  (by rw[zfm hi,if_pos rfl,he,plain];simp only[LkD.enc,List.length_append,List.length_singleton,hie];rfl)
 rw[show(zlE l (zbH l name) (.raw (.slice a k.line.length cap))).set (zbH l name) (plain ⟨k.name,k.holder,k.token,k.line++[c]⟩)=(l.set (zbH l name) ⟨k.name,k.holder,k.token,k.line++[c]⟩).map plain from by
  refine List.ext_getElem (by simp[zbZ]) fun j h1 h2=> ?_
  have hj:j<l.length:=by simpa using h2
  rw[List.getElem_set,List.getElem_map,List.getElem_set]
  split
  ·rfl
  ·rw[zfm hj,if_neg (by omega)],show List.flatMap LkD.enc ((l.set (zbH l name) ⟨k.name,k.holder,k.token,k.line++[c]⟩).map plain)=zam (l.set (zbH l name) ⟨k.name,k.holder,k.token,k.line++[c]⟩) from zj9]at hset
 have hi1:(zaQ k.line).take (k.line.length*1)=zaQ k.line:=List.take_of_length_le (by rw[zaO];omega)
 have hi2:(zaQ k.line++[D.v (.int .i64 c)]).take (k.line.length+1)=zaQ k.line++[D.v (.int .i64 c)]:=List.take_of_length_le (by rw[List.length_append,zaO];exact Nat.le_refl _)
 have hbig:((k.line.length+1)*8≤2^47)=True:=eq_true (by omega)
 refine zL0 (I @List.drop_succ_cons.{0} (I @List.drop_zero.{0} (I hset (I @zaO (I hi1 (I hi2 (I hbig (I @zmd (I @List.map_cons.{0,0} (I @zeq @zbZ)))))))))) ?_
 simp[zrQ,zax]
theorem zwo (l:List Lk) (hs:SL l) (hl:l.length<2^30) (hll:∀k∈l,k.line.length<2^30) (name:ByteArray) (c t:Int) (ht:0≤t∧t<2^62) (hc:isClient c=true) (w:Bool):
  CallOK Tryz.prog 207 [.f (al l.length (zam l)), .f (ast name), .f (ai c), .f (ai t), .f (ab w)]
  (fun r o=>r=[.one (.own 4 (za5 l name c t w).1.length (zam (za5 l name c t w).1) false),ri (za5 l name c t w).2.1,ri (za5 l name c t w).2.2]∧o=[]):=by
 cases hf:zdU l name with
 |none=>exact zua l hs hl hll name c t ht w hf
 |some k=>
  by_cases hx:(k.holder==c)=true∨w=false∨hasI k.line c=true∨decide ((k.line.length:Int)≥3)=true
  ·exact zue l hs hl hll name c t hc w k hf hx
  ·simp only[not_or,Bool.not_eq_true,Bool.not_eq_false]at hx
   exact zuf l hs hl hll name c t hc w k hf hx.1 hx.2.1 hx.2.2.1 hx.2.2.2
theorem zwn {l:List Int} {c:Int}:zbd l [c]=l.filter fun x=> !(x==c):=by
 unfold zbd hasI
 congr 1
 funext x
 simp[zo6]
theorem zmt:∀{l:List Int} {c:Int},l.Nodup→hasI l c=true→(zhM l c).1=zbd l [c]:=fun {l c} hn hc=>by
 rw[zwn]
 unfold zhM
 rcases zi7 (fun x=>c==x) l 0 with⟨h1,_⟩|⟨k,hk,h2,h3,h4⟩
 ·exfalso
  unfold hasI at hc
  obtain⟨x,hx,hx2⟩:=List.any_eq_true.1 hc
  rw[h1 x hx]at hx2;cases hx2
 ·have h2':zev (fun x=>c==x) l 0=((0+k:Nat):Int):=h2
  rw[h2',if_neg (by omega)]
  simp only[Nat.zero_add,Int.toNat_natCast]
  have hck:c=l[k]:=by simpa using h3
  subst hck
  clear h2 h2' h3 h4 hc
  induction l generalizing k with
  |nil=>simp at hk
  |cons y l ih=>
   have hn':=List.nodup_cons.1 hn
   cases k with
   |zero=>
    simp only[List.eraseIdx_cons_zero,List.getElem_cons_zero,List.filter_cons,beq_self_eq_true,Bool.not_true,Bool.false_eq_true,if_false]
    refine(List.filter_eq_self.2 fun x hx=> ?_).symm
    have:x≠y:=fun e=>hn'.1 (e▸hx)
    simpa using this
   |succ k=>
    have hk':k<l.length:=by simpa using hk
    simp only[List.eraseIdx_cons_succ,List.getElem_cons_succ,List.filter_cons]
    have:y≠l[k]:=fun e=>hn'.1 (e▸List.getElem_mem hk')
    rw[if_pos (by simpa using this),ih hn'.2 k hk']
set_option maxHeartbeats 4000000 in
theorem zqt (l:List Lk) (hs:SL l) (hl:l.length<2^30) (hll:∀k∈l,k.line.length<2^30∧k.line.Nodup) (name:ByteArray) (c t:Int) (ht:0≤t∧t<2^62):
  CallOK Tryz.prog 209 [.f (al l.length (zam l)), .f (ast name), .f (ai c), .f (ai t)]
  (fun r o=>r=[.one (.own 4 (zb4 l name c t).1.length (zam (zb4 l name c t).1) false),ri (zb4 l name c t).2.1,ri (zb4 l name c t).2.2]∧o=[]):=by
 refine CallOK.nil ?_
 refine zh Tryz.func209 Tryz.results209 Tryz.ntmps209 Tryz.call209 ?_
 simp only[Tryz.f209,Option.getD]
 have hco:=zi8 l hl (fun k hk=>(hll k hk).1)
 have hfi:=zj4 l (by omega) name
 rw[zhP hs]at hfi
 have hwt:IntKind.i64.wrap (t+1)=t+1:=wrap64 (by omega) (by omega)
 cases hf:zdU l name with
 |none=>
  rw[hf]at hfi
  simp only at hfi
  have hm1:decide ((-1:Int)<0)=true:=rfl
  have hfr:zb4 l name c t=([],0,6):=by unfold zb4;rw[hf]
  rw[hfr]
  refine zL (I hm1 @zaF) (I (hco) (hfi)) ?_
  simp[zrQ,zax]
 |some k=>
  rw[hf]at hfi
  simp only at hfi
  obtain⟨⟨hi,he⟩,hn⟩:=zd4 hs hf
  have hat:=zbT hi
  rw[he]at hat
  obtain⟨hkl,hkn⟩:=hll k (he▸List.getElem_mem hi)
  have hah:=zj7 k.line (by omega) c
  have hm1:decide ((zbH l name:Int)<0)=false:=by simp
  have hat1:(zam l).drop (zbH l name*4+1)=iD k.holder::iD k.token:: .sl k.line.length (zaQ k.line)::zam (l.drop (zbH l name+1)):=by rw[←List.drop_drop,hat];rfl
  have hat3:(zam l).drop (zbH l name*4+3)= .sl k.line.length (zaQ k.line)::zam (l.drop (zbH l name+1)):=by rw[←List.drop_drop,hat];rfl
  have hfr:zb4 l name c t=if(k.holder==c)=true then((zgW l (zbH l name) k t).1,(zgW l (zbH l name) k t).2,0)else
    if hasI k.line c=true then(l.set (zbH l name) ⟨k.name,k.holder,k.token,(zhM k.line c).1⟩,0,0)else([],0,6):=by unfold zb4;rw[hf]
  cases h1:(k.holder==c)
  ·have h1':(k.holder !=c)=true:=by rw[bne,h1];rfl
   rw[if_neg (by rw[h1];simp)]at hfr
   cases h3:hasI k.line c
   ·rw[if_neg (by rw[h3];simp)]at hfr
    rw[hfr]
    rw[h3]at hah
    refine zL (I hm1 (I h1' (I hat1 (I hat3 (I @zmd (I @List.map_cons.{0,0} (I @zah @zaF))))))) (I (hco) (I (hfi) (hah))) ?_
    simp[zrQ,zax]
   ·rw[if_pos h3,zmt hkn h3]at hfr
    rw[hfr]
    rw[h3]at hah
    have hwo:=zj8 k.line [c] hkl (by simp)
    have hset:=zgY Lk.enc 4 (fun _=>rfl) hi (k:=3) (by decide) (.sl (zbd k.line [c]).length (zaQ (zbd k.line [c]))) ⟨k.name,k.holder,k.token,zbd k.line [c]⟩ (by rw[he];rfl)
    have hwl:(zaQ (zbd k.line [c])).take ((zbd k.line [c]).length*1)=zaQ (zbd k.line [c]):=List.take_of_length_le (by rw[zaO];omega)
    refine zL (I hm1 (I h1' (I hat1 (I hat3 (I hset (I hwl (I @rowI.eq_1 (I @zaO (I @zmd (I @List.map_cons.{0,0} (I @zah @zaF))))))))))) (I (hco) (I (hfi) (I (hah) (hwo)))) ?_
    simp[zrQ,zax]
  ·have h1':(k.holder !=c)=false:=by rw[bne,h1];rfl
   rw[if_pos h1]at hfr
   rw[hfr]
   unfold zgW
   cases hk:k.line with
   |nil=>
    rw[hk]at hat1 hat3
    simp only[List.length_nil,List.flatMap_nil]at hat1 hat3
    have hE:=ztT Lk.enc 4 (fun _=>rfl) hi
    have hE2:((zam l).drop ((zbH l name+1)*4)).take ((l.length - (zbH l name+1))*4)=(zam l).drop ((zbH l name+1)*4):=List.take_of_length_le (by rw[List.length_drop,zah];omega)
    have hz:(((0:Nat):Int)==0)=true:=rfl
    have hw:IntKind.i64.wrap ((zbH l name:Int)+1)=((zbH l name+1:Nat):Int):=by rw[wrap64 (by omega) (by omega)];omega
    have hq1:((zam l).take (zbH l name*4)).length=zbH l name*4:=by rw[List.length_take,zah];omega
    have hq2:((zam l).drop ((zbH l name+1)*4)).length=(l.length - (zbH l name+1))*4:=by rw[List.length_drop,zah];omega
    have hB1:(zbH l name*56≤2^47)=True:=eq_true (by omega)
    have hB2:((zbH l name+(l.length - (zbH l name+1)))*56≤2^47)=True:=eq_true (by omega)
    have hB3:(((zbH l name+1:Nat):Int)≤(l.length:Int))=True:=eq_true (by omega)
    have hB4:((zbH l name:Int)≤(l.length:Int))=True:=eq_true (by omega)
    have hB5:(0≤((zbH l name+1:Nat):Int))=True:=eq_true (by omega)
    have hTT:((zam l).take (zbH l name*4)).take (zbH l name*4)=(zam l).take (zbH l name*4):=List.take_of_length_le (by omega)
    have hTA:(zam l).take (zbH l name*4)++(zam l).drop ((zbH l name+1)*4)=zam (l.eraseIdx (zbH l name)):=hE.symm
    have hle:(l.eraseIdx (zbH l name)).length=zbH l name+(l.length - (zbH l name+1)):=by rw[List.length_eraseIdx_of_lt hi];omega
    repeat'(first|(with_reducible first|refine zae _ _ ?_|refine zcj ?_|refine zck ?_)|rw[zbK]|simp only[hm1,h1',hat1,hat3,hz,hw,hE2,hq1,hq2,hB1,hB2,hB3,hB4,hB5,hTT,hTA,Int.le_refl,←List.map_drop,List.map_cons,zah,zaF,zY,Int.reduceEq,Int.reduceBEq,Int.reduceBNe,Nat.reduceSub,Nat.reduceEqDiff,Nat.reduceAdd,Nat.reduceMul,Nat.reduceLeDiff,Nat.reduceLT,Nat.reduceBEq,reduceCtorEq]|((first|((try refine zaT ?_);apply za9)|(apply za7;intro _));(solve|exact(hco)|exact(hfi)|(refine CallOK.le (hco) ?_;exact zM)|(refine CallOK.le (hfi) ?_;exact zM)|fail);try case hn=>rfl)|refine za8 ?_|refine zaa (fun hb=> ?_) (fun hb=> ?_)|(refine And.intro ?_ ?_;exact zI)|refine And.intro (fun hg=> ?_) (fun hg=> ?_)|exact zC|fail)
    simp[zrQ,zax,hle]
   |cons x rest=>
    rw[hk]at hat1 hat3
    have hz:(((rest.length+1:Nat):Int)==0)=false:=by simp;omega
    have hrl:rest.length<2^30:=by rw[hk,List.length_cons]at hkl;omega
    have hn1:rest.length+1 - 1=rest.length:=rfl
    have hT:(zaQ rest).take rest.length=zaQ rest:=List.take_of_length_le (by rw[zaO];exact Nat.le_refl _)
    have hBr:(rest.length*8≤2^47)=True:=eq_true (by omega)
    have hnx:=List.nodup_cons.1 (hk▸hkn)
    have hset1:=zgY Lk.enc 4 (fun _=>rfl) hi (k:=1) (by decide) (iD x) ⟨k.name,x,k.token,x::rest⟩ (by rw[he,←hk];rfl)
    obtain⟨l1,hl1⟩:∃l1,l1=l.set (zbH l name) ⟨k.name,x,k.token,x::rest⟩:=⟨_,rfl⟩
    have hi1:zbH l name<l1.length:=by rw[hl1];simpa using hi
    have hg1:l1[zbH l name]=⟨k.name,x,k.token,x::rest⟩:=by simp[hl1]
    have hset2:=zgY Lk.enc 4 (fun _=>rfl) hi1 (k:=3) (by decide) (.sl rest.length (zaQ rest)) ⟨k.name,x,k.token,rest⟩ (by rw[hg1];rfl)
    obtain⟨l2,hl2⟩:∃l2,l2=l1.set (zbH l name) ⟨k.name,x,k.token,rest⟩:=⟨_,rfl⟩
    have hi2:zbH l name<l2.length:=by rw[hl2];simpa using hi1
    have hg2:l2[zbH l name]=⟨k.name,x,k.token,rest⟩:=by simp[hl2]
    have hset3:=zgY Lk.enc 4 (fun _=>rfl) hi2 (k:=2) (by decide) (iD (t+1)) ⟨k.name,x,t+1,rest⟩ (by rw[hg2];rfl)
    have hl3:l2.set (zbH l name) ⟨k.name,x,t+1,rest⟩=l.set (zbH l name) ⟨k.name,x,t+1,rest⟩:=by rw[hl2,hl1,List.set_set,List.set_set]
    rw[←hl1]at hset1
    rw[←hl2]at hset2
    rw[hl3]at hset3
    have hat3':=zbT hi1
    rw[hg1]at hat3'
    have hat3':(zam l1).drop (zbH l name*4+3)= .sl (x::rest).length (zaQ (x::rest))::zam (l1.drop (zbH l name+1)):=by rw[←List.drop_drop,hat3'];rfl
    have hll1:l1.length=l.length:=by rw[hl1,List.length_set]
    refine zL (I hm1 (I h1' (I hat1 (I hat3 (I hat3' (I hz (I hwt (I hset1 (I hset2 (I hset3 (I @zaO (I hn1 (I hT (I hBr (I hll1 (I @zmd (I @List.map_cons.{0,0} (I @zah @zaF)))))))))))))))))) (I (hco) (hfi)) ?_
    simp[zrQ,zax]
theorem zAt {l m:List Lk} (h:SL l) (hs:(m.map Lk.name).Sublist (l.map Lk.name)):SL m:=by
 have h1:(l.map Lk.name).Pairwise fun a b=>zeK a b=true:=List.pairwise_map.2 h
 exact List.pairwise_map.1 (h1.sublist hs)
theorem zy6 {gone:List Int} {l:List Lk}:(l.map (zan gone)).map Lk.name=l.map Lk.name:=by rw[List.map_map];rfl
theorem zy7 {l:List Lk} (hs:SL l) {i:Nat} (hi:i<l.length):zdU l l[i].name=some l[i]∧zbH l l[i].name=i:=by
 have hself:∀x:Lk,isL x.name x=true:=fun x=>by simp[isL]
 have hne:∀{a b:Nat} (ha:a<l.length) (hb:b<l.length),a<b→l[a].name.toList=l[b].name.toList→False:=fun ha hb hab h=>by
  have:=List.pairwise_iff_getElem.1 hs _ _ ha hb hab
  simp only[zeK,h,zqn]at this
  cases this
 have key:∀{j:Nat} (hj:j<l.length),isL l[i].name l[j]=true→j=i:=fun {j} hj h=>by
  simp only[isL,beq_iff_eq]at h
  rcases Nat.lt_trichotomy j i with h1|h1|h1
  ·exact(hne hj hi h1 h).elim
  ·exact h1
  ·exact(hne hi hj h1 h.symm).elim
 cases hf:zdU l l[i].name with
 |none=>exact absurd (hself l[i]) (List.find?_eq_none.1 hf _ (List.getElem_mem hi))
 |some x=>
  obtain⟨⟨hp,he⟩,hx⟩:=zd4 hs hf
  have:=key hp (by rw[he];exact hx)
  refine⟨?_,this⟩
  rw[←he]
  simp only[this]
theorem zy8 {gone:List Int} {k:Lk} (h:k.line.length<2^30∧k.line.Nodup):(zan gone k).line.length<2^30∧(zan gone k).line.Nodup:=
 ⟨Nat.lt_of_le_of_lt (List.length_filter_le ..) h.1,h.2.filter _⟩
set_option maxHeartbeats 4000000 in
theorem zwm (l:List Lk) (hs:SL l) (hl:l.length<2^30) (hll:∀k∈l,k.line.length<2^30∧k.line.Nodup) (gone:List Int) (hg:gone.length<2^30) (t:Int) (ht:0≤t∧t≤2^61):
  CallOK Tryz.prog 203 [.f (al l.length (zam l)), .f (al gone.length (zaQ gone)), .f (ai t)]
  (fun r o=>r=[.one (.own 4 (zeJ l gone t).1.length (zam (zeJ l gone t).1) false),ri (zeJ l gone t).2]∧o=[]):=by
 refine zh Tryz.func203 Tryz.results203 Tryz.ntmps203 Tryz.call203 ?_
 simp only[Tryz.f203,Option.getD]
 have hco:=zi8 l hl (fun k hk=>(hll k hk).1)
 refine zL (I @zah @zaF) (hco) ?_
 refine zai (τ:=Nat) (fun i=>⟨(al l.length (zam l)::al gone.length (zaQ gone)::ai t::dq5 (.one (.own ⟨8,1,1⟩ 0 l.length)::ai i::zxV (zez []))),[(16,⟨2,[]⟩),(8,⟨2,[none,roq 1 4 (zam (curL l gone i))]⟩),(31,⟨2,[]⟩)]⟩)
  (fun i=>i≤l.length) (fun _=>()) (fun i=>l.length - i) 0
  (Gh.canon [8] [31] [] zK rfl rfl) (Nat.zero_le _) ?_
 intro i hi0 hF K hK
 refine zw ?_
 refine zaa (fun hlt=> ?_) (fun hge=> ?_)
 ·have hi:i<l.length:=by simpa using hlt
  obtain⟨hic,hce⟩:=zy1 (gone:=gone) hi
  have hat:=zbT hic
  rw[hce]at hat
  have hat2:(zam (curL l gone i)).drop (i*4+3)= .sl l[i].line.length (zaQ l[i].line)::zam ((curL l gone i).drop (i+1)):=by rw[←List.drop_drop,hat];rfl
  have hw:=zal hi (by omega)
  have hwo:=zj8 l[i].line gone (hll _ (List.getElem_mem hi)).1 hg
  have hset:=zgY Lk.enc 4 (fun _=>rfl) hic (k:=3) (by decide) (.sl (zbd l[i].line gone).length (zaQ (zbd l[i].line gone))) (zan gone l[i]) (by rw[hce];rfl)
  rw[ztV hi]at hset
  have hwl:(zaQ (zbd l[i].line gone)).take ((zbd l[i].line gone).length*1)=zaQ (zbd l[i].line gone):=List.take_of_length_le (by rw[zaO];omega)
  repeat'(first|(with_reducible first|refine zae _ _ ?_|refine zcj ?_|refine zck ?_)|rw[zbK]|simp only[hat2,hset,hwl,rowI,←List.map_drop,List.map_cons,zah,zwe hi0,zY,Int.reduceEq,Int.reduceBEq,Int.reduceBNe,Nat.reduceSub,Nat.reduceEqDiff,Nat.reduceAdd,Nat.reduceMul,Nat.reduceLeDiff,Nat.reduceLT,Nat.reduceBEq,reduceCtorEq]|((first|((try refine zaT ?_);apply za9)|(apply za7;intro _));(solve|exact(hwo)|(refine CallOK.le (hwo) ?_;exact zM)|fail);try case hn=>rfl)|refine za8 ?_|refine zaa (fun hb=> ?_) (fun hb=> ?_)|(refine And.intro ?_ ?_;exact zI)|refine And.intro (fun hg=> ?_) (fun hg=> ?_)|exact zC|fail)
  exact hK _ (i+1) (Gh.canon [8] [] [] (zk hw) rfl rfl) hi rfl (by omega)
 ·have hi:i=l.length:=by
   have:¬(i:Int)<l.length:=by simpa using hge
   omega
  rw[hi,zwf]
  have hdP:zeJ l gone t=zcm gone t (l.map (zan gone)) 0:=rfl
  rw[hdP]
  obtain⟨W,hW⟩:∃W,W=l.map (zan gone):=⟨_,rfl⟩
  have hWl:W.length=l.length:=by rw[hW,List.length_map]
  have hWn:W.map Lk.name=l.map Lk.name:=by rw[hW];exact zy6
  have hWg:∀(j:Nat) (hj:j<l.length),W[j]'(by omega)=zan gone l[j]:=fun j hj=>by simp[hW]
  have hWk:∀k∈W,k.line.length<2^30∧k.line.Nodup:=fun k hk=>by
   rw[hW]at hk
   obtain⟨k0,hk0,rfl⟩:=List.mem_map.1 hk
   exact zy8 (hll k0 hk0)
  rw[←hW]
  clear hdP hW
  refine zL0 trivial ?_
  refine zai (τ:=List Lk×Nat×Int) (fun q=>⟨(al l.length (zam l)::al gone.length (zaQ gone)::ai t::dq5 (.one (.own ⟨8,1,1⟩ 0 (q.1++W.drop q.2.1).length)::dd::ai q.2.2::ai q.2.1::zr9 (zez []))),[(16,⟨2,[]⟩),(8,⟨2,[none,roq 1 4 (zam (q.1++W.drop q.2.1))]⟩),(31,⟨2,[]⟩),(12,⟨2,[]⟩),(62,⟨2,[]⟩)]⟩)
   (fun q=>q.2.1≤l.length∧(0≤q.2.2∧q.2.2≤q.2.1)∧(q.1.map Lk.name).Sublist ((l.take q.2.1).map Lk.name)∧∀k∈q.1,k.line.length<2^30∧k.line.Nodup)
   (fun q=>(q.1++(zcm gone t (W.drop q.2.1) q.2.2).1,(zcm gone t (W.drop q.2.1) q.2.2).2)) (fun q=>l.length - q.2.1) ([],0,0)
   (Gh.canon [8] [12,62] [] (zk (I @List.drop_zero.{0} (I @List.nil_append.{0} hWl))) rfl rfl) ⟨Nat.zero_le _,⟨Int.le_refl _,Int.le_refl _⟩,List.nil_sublist _,by simp⟩ ?_
  rintro⟨L,i,g⟩ ⟨j1,j2,j3,j4⟩ hF K hK
  simp only[List.drop_zero,List.nil_append]at j1 j2 j3 j4 hF hK⊢
  refine zw ?_
  refine zaa (fun hlt=> ?_) (fun hge=> ?_)
  ·have hi:i<l.length:=by simpa using hlt
   have hat:=zbT hi
   have hat1:(zam l).drop (i*4+1)=iD l[i].holder::iD l[i].token:: .sl l[i].line.length (zaQ l[i].line)::zam (l.drop (i+1)):=by rw[←List.drop_drop,hat];rfl
   have hin:=zAq gone (by omega) l[i].holder
   have hw:=zal hi (by omega)
   have hiw:i<W.length:=by omega
   have hgw:=hWg i hi
   have hdr:=zru (gone:=gone) (t:=t) (g:=g) hiw
   rw[hgw]at hdr
   have hdc:W.drop i=zan gone l[i]::W.drop (i+1):=by rw[List.drop_eq_getElem_cons hiw,hgw]
   have hL:L.length≤i:=by have:=j3.length_le;simp only[List.length_map,List.length_take]at this;omega
   have htk:(l.take (i+1)).map Lk.name=(l.take i).map Lk.name++[l[i].name]:=by rw[←List.take_append_getElem hi,List.map_append];rfl
   cases hh:hasI gone l[i].holder
   ·rw[hh]at hin
    rw[show hasI gone (zan gone l[i]).holder=false from hh,if_neg (by simp)]at hdr
    have hMe:L++W.drop i=L++[zan gone l[i]]++W.drop (i+1):=by rw[hdc];simp
    obtain⟨M,hM⟩:∃M,M=L++W.drop i:=⟨_,rfl⟩
    rw[←hM]
    rw[hMe]at hM
    refine zL (I hat (I hat1 (I @zah zca))) (hin) ?_
    rw[hM]
    refine hK _ (L++[zan gone l[i]],i+1,g) (Gh.canon [8] [] [] (zk hw) rfl rfl) ⟨hi,⟨j2.1,by simp only;omega⟩, ?_, ?_⟩ ?_ (by simp only;omega)
    ·simp only[htk,List.map_append,List.map_cons,List.map_nil]
     exact j3.append (List.Sublist.refl _)
    ·intro k hk
     rcases List.mem_append.1 hk with hk|hk
     ·exact j4 k hk
     ·rw[List.mem_singleton.1 hk];exact zy8 (hll _ (List.getElem_mem hi))
    ·simp only;rw[hdr];simp
   ·rw[hh]at hin
    rw[show hasI gone (zan gone l[i]).holder=true from hh,if_pos rfl]at hdr
    -- the row,as it stands
    obtain⟨M,hM⟩:∃M,M=L++W.drop i:=⟨_,rfl⟩
    have hMl:M.length=L.length+(l.length - i):=by rw[hM,List.length_append,List.length_drop,hWl]
    have hMs:SL M:=zAt hs (by
     rw[hM,List.map_append,List.map_drop,hWn,←List.map_drop]
     have:=j3.append (List.Sublist.refl ((l.drop i).map Lk.name))
     rwa[show(l.take i).map Lk.name++(l.drop i).map Lk.name=l.map Lk.name from by rw[←List.map_append,List.take_append_drop]]at this)
    have hMk:∀k∈M,k.line.length<2^30∧k.line.Nodup:=fun k hk=>by
     rw[hM]at hk
     rcases List.mem_append.1 hk with hk|hk
     ·exact j4 k hk
     ·exact hWk k (List.mem_of_mem_drop hk)
    have hMi:L.length<M.length:=by omega
    have hMg:M[L.length]=zan gone l[i]:=by
     subst hM
     rw[List.getElem_append_right (Nat.le_refl _)]
     simp only[Nat.sub_self,List.getElem_drop,Nat.add_zero]
     exact hgw
    obtain⟨hf1,hf2⟩:=zy7 hMs hMi
    rw[hMg]at hf1 hf2
    have hf1:zdU M l[i].name=some (zan gone l[i]):=hf1
    have hf2:zbH M l[i].name=L.length:=hf2
    have hfr:=zqt M hMs (by omega) hMk l[i].name l[i].holder (t+g) (by omega)
    have hwt:IntKind.i64.wrap (t+g)=t+g:=wrap64 (by omega) (by omega)
    have hfp:zb4 M l[i].name l[i].holder (t+g)=((zgW M L.length (zan gone l[i]) (t+g)).1,(zgW M L.length (zan gone l[i]) (t+g)).2,0):=by
     unfold zb4
     rw[hf1,hf2]
     simp only
     rw[if_pos (show((zan gone l[i]).holder==l[i].holder)=true from by simp[zan])]
    rw[hfp]at hfr
    rw[←hM]
    clear hlt
    cases hline:(zan gone l[i]).line with
    |nil=>
     rw[hline]at hdr
     simp only at hdr
     have hp:zgW M L.length (zan gone l[i]) (t+g)=(M.eraseIdx L.length,0):=by unfold zgW;rw[hline]
     rw[hp]at hfr
     have hg0:IntKind.i64.wrap (g+0)=g:=by rw[Int.add_zero];exact wrap64 (by omega) (by omega)
     have hMe:M.eraseIdx L.length=L++W.drop (i+1):=by rw[hM,List.eraseIdx_append_of_length_le (Nat.le_refl _),Nat.sub_self,hdc];rfl
     rw[hMe]at hfr
     refine zL (I hat (I hat1 (I hwt (I @zah (I @zaF zca))))) (I (hin) (hfr)) ?_
     refine hK _ (L,i+1,g) (Gh.canon [8] [] [] (zk (I hw hg0)) rfl rfl) ⟨hi,⟨j2.1,by simp only;omega⟩, ?_,j4⟩ ?_ (by simp only;omega)
     ·simp only[htk]
      exact j3.trans (List.sublist_append_left _ _)
     ·simp only;rw[hdr]
    |cons x rest=>
     rw[hline]at hdr
     simp only at hdr
     have hp:zgW M L.length (zan gone l[i]) (t+g)=(M.set L.length ⟨l[i].name,x,t+g+1,rest⟩,1):=by unfold zgW;rw[hline];rfl
     rw[hp]at hfr
     have hg1:IntKind.i64.wrap (g+1)=g+1:=wrap64 (by omega) (by omega)
     have hMe:M.set L.length ⟨l[i].name,x,t+g+1,rest⟩=L++[⟨l[i].name,x,t+g+1,rest⟩]++W.drop (i+1):=by rw[hM,List.set_append_right _ _ (Nat.le_refl _),Nat.sub_self,hdc];simp
     rw[hMe]at hfr
     refine zL (I hat (I hat1 (I hwt (I @zah (I @zaF zca))))) (I (hin) (hfr)) ?_
     refine hK _ (L++[⟨l[i].name,x,t+g+1,rest⟩],i+1,g+1) (Gh.canon [8] [] [] (zk (I hw hg1)) rfl rfl) ⟨hi,⟨by simp only;omega,by simp only;omega⟩, ?_, ?_⟩ ?_ (by simp only;omega)
     ·simp only[htk,List.map_append,List.map_cons,List.map_nil]
      exact j3.append (List.Sublist.refl _)
     ·intro k hk
      rcases List.mem_append.1 hk with hk|hk
      ·exact j4 k hk
      ·rw[List.mem_singleton.1 hk]
       have:=zy8 (gone:=gone) (hll _ (List.getElem_mem hi))
       rw[hline]at this
       exact⟨by have:=this.1;simp only[List.length_cons]at this⊢;omega,(List.nodup_cons.1 this.2).2⟩
     ·simp only;rw[hdr];simp[zan]
  ·have hi:i=l.length:=by
    have:¬(i:Int)<l.length:=by simpa using hge
    omega
   subst hi
   have hd0:W.drop l.length=[]:=List.drop_eq_nil_of_le (by omega)
   rw[hd0]at hF⊢
   simp only[zcm,List.append_nil]at hF⊢
   have e1:L=(zcm gone t W 0).1:=congrArg Prod.fst hF
   have e2:g=(zcm gone t W 0).2:=congrArg Prod.snd hF
   rw[←e1,←e2]
   exact zW0 trivial
structure RightS (s:St):Prop where
 time:0≤s.time∧s.time≤zbx
 num:0≤s.num∧s.num≤zbx
 token:0≤s.token∧s.token≤zbx
 ss:SS s.sess
 sok:∀x∈s.sess,zlx x=true∧x.num≤s.num
 snd:s.sess.Pairwise fun a b=>a.num≠b.num
 sl:s.sess.length≤5
 ls:SL s.locks
 lok:∀k∈s.locks,ztK k=true∧k.token≤s.token∧lineB k.line=true∧hasI k.line k.holder=false
 lnd:s.locks.Pairwise fun a b=>a.token≠b.token
 ll:s.locks.length≤4
 ms:SM s.memos
 mok:∀m∈s.memos,answerB m=true
 seat:∀k∈s.locks,(zaS s.sess k.holder).isSome=true∧∀c∈k.line,(zaS s.sess c).isSome=true
theorem zeE {α:Type} {r:α→α→Prop} (ht:∀a b c,r a b→r b c→r a c):∀{l:List α},(∀j (hj:j<l.length),0<j→r (l[j - 1]'(by omega)) l[j])→l.Pairwise r
 |[],_=>List.Pairwise.nil
 |[x],_=>by simp
 |x::y::l,h=>by
  have h1:r x y:=h 1 (by simp) (by decide)
  have ih:(y::l).Pairwise r:=zeE ht fun j hj h0=>by
   have:=h (j+1) (by simpa using hj) (by omega)
   obtain⟨k,rfl⟩:∃k,j=k+1:=⟨j - 1,by omega⟩
   simpa using this
  refine List.pairwise_cons.2 ⟨fun z hz=> ?_,ih⟩
  rcases List.mem_cons.1 hz with rfl|hz
  ·exact h1
  ·exact ht _ _ _ h1 ((List.pairwise_cons.1 ih).1 z hz)
theorem zeF {α:Type} {r:α→α→Prop} {l:List α} (h:l.Pairwise r) (j:Nat) (hj:j<l.length) (h0:0<j):r (l[j - 1]'(by omega)) l[j]:=
 List.pairwise_iff_getElem.1 h (j - 1) j (by omega) hj (by omega)
theorem zgu {α:Type} {l:List α} {i:Nat} {p:α→Bool} (hi:i<l.length):(l.take i).any p=false↔∀j (hj:j<l.length),j<i→p l[j]=false:=by
 rw[List.any_eq_false]
 constructor
 ·intro h j hj hji
  have hm:l[j]∈l.take i:=by
   rw[List.mem_take_iff_getElem]
   exact⟨j,by omega,rfl⟩
  simpa using h _ hm
 ·intro h x hx
  rw[List.mem_take_iff_getElem]at hx
  obtain⟨j,hj,rfl⟩:=hx
  simp[h j (by omega) (by omega)]
theorem ztH {l:List Sess}:zyT l=true↔l.length≤5∧(∀x∈l,zlx x=true)∧SS l∧l.Pairwise fun a b=>a.num≠b.num:=by
 unfold zyT
 rw[Bool.and_eq_true,zcI]
 simp only[Nat.zero_add,Bool.not_eq_true',decide_eq_false_iff_not]
 constructor
 ·rintro⟨h1,h2⟩
  have q:∀j (hj:j<l.length),zlx l[j]=true∧(0<j→zv9 l j<l[j].client)∧(∀k (hk:k<l.length),k<j→l[k].num≠l[j].num):=by
   intro j hj
   have:=h2 j hj
   unfold zyS at this
   simp only[Bool.and_eq_true,Bool.not_eq_true',Bool.or_eq_false_iff,Bool.and_eq_false_iff,decide_eq_false_iff_not]at this
   obtain⟨a,b,c⟩:=this
   refine⟨a,fun h0=> ?_,fun k hk hkj=> ?_⟩
   ·rcases b with b|b
    ·omega
    ·omega
   ·have:=(zgu hj).1 c k hk hkj
    simpa using this
  refine⟨by omega,fun x hx=> ?_, ?_, ?_⟩
  ·obtain⟨j,hj,rfl⟩:=List.getElem_of_mem hx
   exact(q j hj).1
  ·refine zeE (fun a b c h1 h2=>by omega) fun j hj h0=> ?_
   have:=(q j hj).2.1 h0
   unfold zv9 at this
   rw[List.getElem?_eq_getElem (by omega)]at this
   simpa using this
  ·rw[List.pairwise_iff_getElem]
   intro i j hi hj hij
   exact(q j hj).2.2 i hi hij
 ·rintro⟨h1,h2,h3,h4⟩
  refine⟨by omega,fun j hj=> ?_⟩
  unfold zyS
  simp only[Bool.and_eq_true,Bool.not_eq_true',Bool.or_eq_false_iff,Bool.and_eq_false_iff,decide_eq_false_iff_not]
  refine⟨h2 _ (List.getElem_mem hj), ?_, ?_⟩
  ·by_cases h0:0<j
   ·right
    have:=zeF h3 j hj h0
    unfold zv9
    rw[List.getElem?_eq_getElem (by omega)]
    simpa using this
   ·left;omega
  ·exact(zgu hj).2 fun k hk hkj=>by
    have:=List.pairwise_iff_getElem.1 h4 k j hk hj hkj
    simpa using this
theorem zbY {l:List Int}:lineB l=true↔l.length≤3∧(∀c∈l,isClient c=true)∧l.Nodup:=by
 unfold lineB
 rw[Bool.and_eq_true,zcI]
 simp only[Nat.zero_add,decide_eq_true_eq]
 constructor
 ·rintro⟨h1,h2⟩
  have q:∀j (hj:j<l.length),isClient l[j]=true∧(∀k (hk:k<l.length),k<j→l[k]≠l[j]):=by
   intro j hj
   have:=h1 j hj
   unfold zyU at this
   simp only[Bool.not_eq_true',Bool.or_eq_false_iff,Bool.not_eq_false']at this
   refine⟨this.1,fun k hk hkj=> ?_⟩
   have h3:=(zgu hj).1 this.2 k hk hkj
   have h4:¬l[j]=l[k]:=by simpa using h3
   exact fun h=>h4 h.symm
  refine⟨by omega,fun x hx=> ?_, ?_⟩
  ·obtain⟨j,hj,rfl⟩:=List.getElem_of_mem hx
   exact(q j hj).1
  ·unfold List.Nodup
   rw[List.pairwise_iff_getElem]
   intro i j hi hj hij
   exact(q j hj).2 i hi hij
 ·rintro⟨h1,h2,h3⟩
  refine⟨fun j hj=> ?_,by omega⟩
  unfold zyU
  simp only[Bool.not_eq_true',Bool.or_eq_false_iff,Bool.not_eq_false']
  refine⟨h2 _ (List.getElem_mem hj), ?_⟩
  exact(zgu hj).2 fun k hk hkj=>by
   unfold List.Nodup at h3
   have:=List.pairwise_iff_getElem.1 h3 k j hk hj hkj
   simpa using fun h=>this h.symm
theorem ztI {l:List Lk}:zyW l=true↔l.length≤4∧(∀k∈l,ztK k=true∧lineB k.line=true∧hasI k.line k.holder=false)∧SL l∧l.Pairwise fun a b=>a.token≠b.token:=by
 unfold zyW
 rw[Bool.and_eq_true,zcI]
 simp only[Nat.zero_add,decide_eq_true_eq]
 constructor
 ·rintro⟨h1,h2⟩
  have q:∀j (hj:j<l.length),(ztK l[j]=true∧lineB l[j].line=true∧hasI l[j].line l[j].holder=false)∧(0<j→zeK (zwb l j) l[j].name=true)∧(∀k (hk:k<l.length),k<j→l[k].token≠l[j].token):=by
   intro j hj
   have:=h1 j hj
   unfold zyV at this
   simp only[Bool.and_eq_true,Bool.not_eq_true',Bool.or_eq_false_iff,Bool.and_eq_false_iff,decide_eq_false_iff_not,Bool.not_eq_false']at this
   obtain⟨⟨a,⟨b1,b2⟩,b3⟩,c⟩:=this
   refine⟨⟨a,b1,b2⟩,fun h0=> ?_,fun k hk hkj=> ?_⟩
   ·rcases b3 with b|b
    ·omega
    ·exact b
   ·have:=(zgu hj).1 c k hk hkj
    simpa using this
  refine⟨by omega,fun x hx=> ?_, ?_, ?_⟩
  ·obtain⟨j,hj,rfl⟩:=List.getElem_of_mem hx
   exact(q j hj).1
  ·refine zeE (r:=fun x y:Lk=>zeK x.name y.name=true) (fun a b c h1 h2=>zmn h1 h2) fun j hj h0=> ?_
   have:=(q j hj).2.1 h0
   unfold zwb at this
   rw[List.getElem?_eq_getElem (by omega)]at this
   simpa using this
  ·rw[List.pairwise_iff_getElem]
   intro i j hi hj hij
   exact(q j hj).2.2 i hi hij
 ·rintro⟨h1,h2,h3,h4⟩
  refine⟨fun j hj=> ?_,by omega⟩
  unfold zyV
  simp only[Bool.and_eq_true,Bool.not_eq_true',Bool.or_eq_false_iff,Bool.and_eq_false_iff,decide_eq_false_iff_not,Bool.not_eq_false']
  obtain⟨a,b,c⟩:=h2 _ (List.getElem_mem hj)
  refine⟨⟨a,⟨b,c⟩, ?_⟩, ?_⟩
  ·by_cases h0:0<j
   ·right
    have:=zeF h3 j hj h0
    unfold zwb
    rw[List.getElem?_eq_getElem (by omega)]
    simpa using this
   ·left;omega
  ·exact(zgu hj).2 fun k hk hkj=>by
    have:=List.pairwise_iff_getElem.1 h4 k j hk hj hkj
    simpa using this
theorem ztJ {l:List Memo}:zyY l=true↔(∀m∈l,answerB m=true)∧SM l:=by
 unfold zyY
 rw[zcI]
 simp only[Nat.zero_add]
 constructor
 ·intro h1
  have q:∀j (hj:j<l.length),answerB l[j]=true∧(0<j→zwc l j<l[j].client):=by
   intro j hj
   have:=h1 j hj
   unfold zyX at this
   simp only[Bool.not_eq_true',Bool.or_eq_false_iff,Bool.and_eq_false_iff,decide_eq_false_iff_not,Bool.not_eq_false']at this
   refine⟨this.1,fun h0=> ?_⟩
   rcases this.2 with b|b
   ·omega
   ·omega
  refine⟨fun x hx=> ?_, ?_⟩
  ·obtain⟨j,hj,rfl⟩:=List.getElem_of_mem hx
   exact(q j hj).1
  ·refine zeE (fun a b c h1 h2=>by omega) fun j hj h0=> ?_
   have:=(q j hj).2 h0
   unfold zwc at this
   rw[List.getElem?_eq_getElem (by omega)]at this
   simpa using this
 ·rintro⟨h2,h3⟩ j hj
  unfold zyX
  simp only[Bool.not_eq_true',Bool.or_eq_false_iff,Bool.and_eq_false_iff,decide_eq_false_iff_not,Bool.not_eq_false']
  refine⟨h2 _ (List.getElem_mem hj), ?_⟩
  by_cases h0:0<j
  ·right
   have:=zeF h3 j hj h0
   unfold zwc
   rw[List.getElem?_eq_getElem (by omega)]
   simpa using this
  ·left;omega
theorem zdv {s:St}:zeG s=true↔RightS s:=by
 unfold zeG ztL within
 simp only[Bool.and_eq_true,decide_eq_true_eq,ztH,ztI,ztJ,List.all_eq_true,List.mem_cons,forall_eq_or_imp]
 constructor
 ·rintro⟨⟨⟨⟨⟨⟨⟨⟨h1,h2⟩,h3⟩,a,b,c,d⟩,e,f,g,h⟩,i,j⟩,k⟩,l⟩,m⟩
  exact⟨h1,h2,h3,c,fun x hx=>⟨b x hx,k x hx⟩,d,a,g,fun k hk=>⟨(f k hk).1,l k hk,(f k hk).2⟩,h,e,j,i,m⟩
 ·intro h
  exact⟨⟨⟨⟨⟨⟨⟨⟨h.time,h.num⟩,h.token⟩,h.sl,fun x hx=>(h.sok x hx).1,h.ss,h.snd⟩,h.ll,fun k hk=>⟨(h.lok k hk).1,(h.lok k hk).2.2⟩,h.ls,h.lnd⟩,h.mok,h.ms⟩,fun x hx=>(h.sok x hx).2⟩,fun k hk=>(h.lok k hk).2.1⟩,h.seat⟩
theorem zv8 {l:List Int} {v:Int}:hasI l v=true↔v∈l:=by
 unfold hasI
 simp[List.any_eq_true]
theorem zc7 {l:List Int} {v:Int}:hasI l v=false↔v ∉ l:=by
 rw[←Bool.not_eq_true,zv8]
theorem zdu {l:List Sess} {c:Int}:(zaS l c).isSome=true↔∃x∈l,x.client=c:=by
 unfold zaS
 simp
theorem zhI {α:Type} {r:α→α→Prop} {l:List α} {x:α} {k:Nat} (hl:l.Pairwise r) (h1:∀y∈l.take k,r y x) (h2:∀y∈l.drop k,r x y):(l.take k++x::l.drop k).Pairwise r:=by
 rw[←List.take_append_drop k l]at hl
 obtain⟨a,b,c⟩:=List.pairwise_append.1 hl
 refine List.pairwise_append.2 ⟨a,List.pairwise_cons.2 ⟨h2,b⟩,fun y hy z hz=> ?_⟩
 rcases List.mem_cons.1 hz with rfl|hz
 ·exact h1 y hy
 ·exact c y hy z hz
theorem zj1 {α:Type} {p:α→Bool} {l:List α} {y:α} (h:y∈l.take (zqm p l)):p y=true:=by
 rw[List.mem_take_iff_getElem]at h
 obtain⟨j,hj,rfl⟩:=h
 exact zo2 (by omega) (by omega)
theorem zj2 {α:Type} {p:α→Bool} {l:List α} {y:α} (hm:zzu p l) (h:y∈l.drop (zqm p l)):p y=false:=by
 obtain⟨j,hj,rfl⟩:=List.getElem_of_mem h
 rw[List.getElem_drop]
 exact zo3 _ hm (by omega)
theorem zmk {α β:Type} {f:α→β} {l:List α} {j:Nat} {x:α} (hj:j<l.length) (h:f x=f l[j]):(l.set j x).map f=l.map f:=by
 rw[List.map_set,h]
 apply List.ext_getElem (by simp)
 intro k h1 h2
 rw[List.getElem_set]
 split
 ·rename_i e;subst e;simp
 ·rfl
theorem zml {α:Type} {l:List α} {j:Nat} {x y:α} (h:y∈l.set j x):y=x∨y∈l:=by
 rcases List.mem_or_eq_of_mem_set h with h|h
 ·exact .inr h
 ·exact .inl h
theorem zxA {l:List Sess}:SS l↔(l.map Sess.client).Pairwise (·<·):=by unfold SS;rw[List.pairwise_map]
theorem zqk {l:List Lk}:SL l↔(l.map Lk.name).Pairwise (fun a b=>zeK a b=true):=by unfold SL;rw[List.pairwise_map]
theorem zql {l:List Memo}:SM l↔(l.map Memo.client).Pairwise (·<·):=by unfold SM;rw[List.pairwise_map]
theorem ze5 (gone:List Int) (token:Int):∀(l:List Lk) (g:Int),0≤g→
  (g≤(zcm gone token l g).2∧(zcm gone token l g).2≤g+l.length)∧((zcm gone token l g).1.map Lk.name).Sublist (l.map Lk.name)∧
  (∀k∈(zcm gone token l g).1,(k∈l∧hasI gone k.holder=false)∨(token+g<k.token∧k.token≤token+(zcm gone token l g).2∧∃k0∈l,k0.name=k.name∧k0.line=k.holder::k.line))∧
  ((∀k∈l,k.token≤token)→(l.Pairwise fun a b=>a.token≠b.token)→(zcm gone token l g).1.Pairwise fun a b=>a.token≠b.token)
 |[],g,hg=>by simp[zcm]
 |k::r,g,hg=>by
  cases hk:hasI gone k.holder
  ·obtain⟨⟨a1,a2⟩,b,c,d⟩:=ze5 gone token r g hg
   have e:zcm gone token (k::r) g=(k::(zcm gone token r g).1,(zcm gone token r g).2):=by rw[zcm,if_neg (by simp[hk])]
   rw[e]
   refine⟨⟨a1,by simp only[List.length_cons];omega⟩,b.cons_cons _,fun x hx=> ?_,fun ht hp=> ?_⟩
   ·rcases List.mem_cons.1 hx with rfl|hx
    ·exact .inl ⟨List.mem_cons_self ..,hk⟩
    ·rcases c x hx with⟨h1,h2⟩|⟨h1,h2,k0,h3,h4⟩
     ·exact .inl ⟨List.mem_cons_of_mem _ h1,h2⟩
     ·exact .inr ⟨h1,h2,k0,List.mem_cons_of_mem _ h3,h4⟩
   ·have hp':=List.pairwise_cons.1 hp
    have hkt:=ht k (List.mem_cons_self ..)
    refine List.pairwise_cons.2 ⟨fun x hx=> ?_,d (fun x hx=>ht x (List.mem_cons_of_mem _ hx)) hp'.2⟩
    rcases c x hx with⟨h1,h2⟩|⟨h1,h2,k0,h3,h4⟩
    ·exact hp'.1 x h1
    ·omega
  ·cases hl:k.line with
   |nil=>
    obtain⟨⟨a1,a2⟩,b,c,d⟩:=ze5 gone token r g hg
    have e:zcm gone token (k::r) g=zcm gone token r g:=by rw[zcm,if_pos hk,hl]
    rw[e]
    refine⟨⟨a1,by simp only[List.length_cons];omega⟩,b.cons _,fun x hx=> ?_,fun ht hp=> ?_⟩
    ·rcases c x hx with⟨h1,h2⟩|⟨h1,h2,k0,h3,h4⟩
     ·exact .inl ⟨List.mem_cons_of_mem _ h1,h2⟩
     ·exact .inr ⟨h1,h2,k0,List.mem_cons_of_mem _ h3,h4⟩
    ·exact d (fun x hx=>ht x (List.mem_cons_of_mem _ hx)) (List.pairwise_cons.1 hp).2
   |cons c0 rest=>
    obtain⟨⟨a1,a2⟩,b,c,d⟩:=ze5 gone token r (g+1) (by omega)
    have e:zcm gone token (k::r) g=(⟨k.name,c0,token+g+1,rest⟩::(zcm gone token r (g+1)).1,(zcm gone token r (g+1)).2):=by rw[zcm,if_pos hk,hl]
    rw[e]
    refine⟨⟨by simp only;omega,by simp only[List.length_cons];omega⟩,b.cons_cons _,fun x hx=> ?_,fun ht hp=> ?_⟩
    ·rcases List.mem_cons.1 hx with rfl|hx
     ·exact .inr ⟨by simp only;omega,by simp only;omega,k,List.mem_cons_self ..,rfl,hl⟩
     ·rcases c x hx with⟨h1,h2⟩|⟨h1,h2,k0,h3,h4⟩
      ·exact .inl ⟨List.mem_cons_of_mem _ h1,h2⟩
      ·exact .inr ⟨by omega,h2,k0,List.mem_cons_of_mem _ h3,h4⟩
    ·have hp':=List.pairwise_cons.1 hp
     refine List.pairwise_cons.2 ⟨fun x hx=> ?_,d (fun x hx=>ht x (List.mem_cons_of_mem _ hx)) hp'.2⟩
     simp only
     rcases c x hx with⟨h1,h2⟩|⟨h1,h2,k0,h3,h4⟩
     ·have:=ht x (List.mem_cons_of_mem _ h1);omega
     ·omega
theorem zcX {k:Lk}:ztK k=true↔nameP k.name=true∧(0≤k.holder∧k.holder<8)∧1≤k.token∧k.token≤zbx:=by
 unfold ztK
 simp only[Bool.and_eq_true,Bool.not_eq_true',decide_eq_false_iff_not]
 constructor
 ·rintro⟨⟨⟨⟨a,b⟩,c⟩,d⟩,e⟩;exact⟨a,⟨by omega,by omega⟩,by omega,by omega⟩
 ·rintro⟨a,⟨b,c⟩,d,e⟩;exact⟨⟨⟨⟨a,by omega⟩,by omega⟩,by omega⟩,by omega⟩
theorem zdJ {c:Int}:isClient c=true↔0≤c∧c<8:=by
 unfold isClient;simp
theorem zeD {l gone:List Int} {c:Int}:c∈zbd l gone↔c∈l∧hasI gone c=false:=by
 unfold zbd;simp
theorem zhJ {s:St} (h:RightS s) (gone:List Int) (hT:s.token+4≤zbx):RightS (zbL s gone)∧s.token≤(zbL s gone).token∧(zbL s gone).token≤s.token+4:=by
 obtain⟨⟨a1,a2⟩,b,c,d⟩:=ze5 gone s.token (s.locks.map (zan gone)) 0 (Int.le_refl _)
 have hlen:((s.locks.map (zan gone)).length:Int)≤4:=by rw[List.length_map];have:=h.ll;omega
 have hl1:∀k∈s.locks.map (zan gone),ztK k=true∧k.token≤s.token∧lineB k.line=true∧hasI k.line k.holder=false∧(∀c∈k.line,hasI gone c=false)∧(zaS s.sess k.holder).isSome=true∧∀c∈k.line,(zaS s.sess c).isSome=true:=by
  intro k hk
  obtain⟨k0,hk0,rfl⟩:=List.mem_map.1 hk
  obtain⟨e1,e2,e3,e4⟩:=h.lok k0 hk0
  obtain⟨f1,f2⟩:=h.seat k0 hk0
  obtain⟨g1,g2,g3⟩:=zbY.1 e3
  refine⟨e1,e2,zbY.2 ⟨?_,fun c hc=>g2 c (zeD.1 hc).1, ?_⟩, ?_,fun c hc=>(zeD.1 hc).2,f1,fun c hc=>f2 c (zeD.1 hc).1⟩
  ·exact Nat.le_trans (List.length_filter_le ..) g1
  ·exact g3.sublist (List.filter_sublist ..)
  ·rw[zc7]at e4⊢
   exact fun hc=>e4 (zeD.1 hc).1
 have hfind:∀c,(zaS s.sess c).isSome=true→hasI gone c=false→(zaS (s.sess.filter fun x=> !hasI gone x.client) c).isSome=true:=by
  intro c hc hg
  obtain⟨x,hx,rfl⟩:=zdu.1 hc
  exact zdu.2 ⟨x,List.mem_filter.2 ⟨hx,by simp[hg]⟩,rfl⟩
 have hok:∀k∈(zeJ s.locks gone s.token).1,ztK k=true∧k.token≤s.token+(zeJ s.locks gone s.token).2∧lineB k.line=true∧hasI k.line k.holder=false∧(hasI gone k.holder=false∧∀c∈k.line,hasI gone c=false)∧(zaS s.sess k.holder).isSome=true∧∀c∈k.line,(zaS s.sess c).isSome=true:=by
  intro k hk
  rcases c k hk with⟨h1,h2⟩|⟨h1,h2,k0,h3,h4,h5⟩
  ·obtain⟨e1,e2,e3,e4,e5,e6,e7⟩:=hl1 k h1
   refine⟨e1, ?_,e3,e4,⟨h2,e5⟩,e6,e7⟩
   have:0≤(zeJ s.locks gone s.token).2:=a1
   omega
  ·obtain⟨e1,e2,e3,e4,e5,e6,e7⟩:=hl1 k0 h3
   rw[h5]at e3 e5 e7
   obtain⟨g1,g2,g3⟩:=zbY.1 e3
   have g3':=List.nodup_cons.1 g3
   have i1:=zcX.1 e1
   have i2:=zdJ.1 (g2 k.holder (List.mem_cons_self ..))
   have a2':(zeJ s.locks gone s.token).2≤4:=by have:(zeJ s.locks gone s.token).2=(zcm gone s.token (s.locks.map (zan gone)) 0).2:=rfl;omega
   have h2':k.token≤s.token+(zeJ s.locks gone s.token).2:=h2
   have:=h.token
   refine⟨zcX.2 ⟨h4▸i1.1,i2,by omega,by omega⟩,h2',zbY.2 ⟨?_,fun c hc=>g2 c (List.mem_cons_of_mem _ hc),g3'.2⟩,zc7.2 g3'.1,⟨e5 _ (List.mem_cons_self ..),fun c hc=>e5 c (List.mem_cons_of_mem _ hc)⟩,e7 _ (List.mem_cons_self ..),fun c hc=>e7 c (List.mem_cons_of_mem _ hc)⟩
   simp only[List.length_cons]at g1;omega
 have hnm:(s.locks.map (zan gone)).map Lk.name=s.locks.map Lk.name:=by rw[List.map_map];rfl
 have a2':(zeJ s.locks gone s.token).2≤4:=by have:(zeJ s.locks gone s.token).2=(zcm gone s.token (s.locks.map (zan gone)) 0).2:=rfl;omega
 have a1':0≤(zeJ s.locks gone s.token).2:=a1
 have hT0:=h.token
 refine⟨⟨h.time,h.num,⟨by simp only[zbL];omega,by simp only[zbL];omega⟩, ?_, ?_, ?_, ?_, ?_, ?_, ?_, ?_,h.ms,h.mok, ?_⟩,by simp only[zbL];omega,by simp only[zbL];omega⟩
 ·exact List.Pairwise.sublist (List.filter_sublist ..) h.ss
 ·exact fun x hx=>h.sok x (List.mem_filter.1 hx).1
 ·exact List.Pairwise.sublist (List.filter_sublist ..) h.snd
 ·exact Nat.le_trans (List.length_filter_le ..) h.sl
 ·rw[zqk]
  rw[hnm]at b
  exact List.Pairwise.sublist b (zqk.1 h.ls)
 ·exact fun k hk=>⟨(hok k hk).1,(hok k hk).2.1,(hok k hk).2.2.1,(hok k hk).2.2.2.1⟩
 ·refine d (fun k hk=>(hl1 k hk).2.1) ?_
  rw[List.pairwise_map]
  exact h.lnd
 ·have:=b.length_le
  rw[hnm,List.length_map,List.length_map]at this
  exact Nat.le_trans this h.ll
 ·intro k hk
  obtain⟨_,_,_,_,⟨g1,g2⟩,f1,f2⟩:=hok k hk
  exact⟨hfind _ f1 g1,fun c hc=>hfind c (f2 c hc) (g2 c hc)⟩
theorem zhK {s:St} (h:RightS s) (time lease:Int) (hT:s.token+4≤zbx):
  RightS (zcJ s time lease)∧s.token≤(zcJ s time lease).token∧(zcJ s time lease).token≤s.token+4∧(zcJ s time lease).num=s.num∧s.time≤(zcJ s time lease).time:=by
 have ht:s.time≤ze6 s time∧ze6 s time≤zbx:=by
  have:=h.time
  unfold ze6
  split
  ·rename_i hc;simp at hc;omega
  ·omega
 have h':RightS {s with time:=ze6 s time}:=⟨⟨by have:=h.time;simp only;omega,ht.2⟩,h.num,h.token,h.ss,h.sok,h.snd,h.sl,h.ls,h.lok,h.lnd,h.ll,h.ms,h.mok,h.seat⟩
 obtain⟨a,b,c⟩:=zhJ h' (zwa s.sess (ze6 s time) (max lease 1)) hT
 exact⟨a,b,c,rfl,ht.1⟩
end Go.Proofs.YtliimajkpggbhaaGreat
