import Derived.Test.YtngleemijkaeoaaGreatS
namespace Go.Proofs.YtngleemijkaeoaaGreat
open Go.Pk
set_option maxRecDepth 100000
set_option linter.unusedSimpArgs false
set_option linter.unusedVariables false
theorem zmw {l:List Int} (h:lineB l=true):l.Nodup:=(zbJ.1 h).2.2
theorem zr9 {l:List Sess}:zl4 l []=l:=List.filter_eq_self.2 fun _ _=>rfl
abbrev zlE (l:List Sess) (gone:List Int) (i:Nat):List Sess:=zl4 l (gone.take i)
theorem zlF {l:List Sess} {gone:List Int} {i:Nat} (hi:i<gone.length):zlE l gone (i+1)=(zlE l gone i).filter fun x=>x.client !=gone[i]:=by
 unfold zlE zl4
 rw[List.filter_filter]
 congr 1
 funext x
 rw[←List.take_append_getElem hi]
 unfold hasI
 rw[List.any_append]
 simp only[List.any_cons,List.any_nil,Bool.or_false,Bool.not_or,bne]
 rw[Bool.and_comm]
theorem zqp {l:List Sess} {gone:List Int} {i:Nat} (hi:i<gone.length) (hf:zaF (zlE l gone i) gone[i]=none):zlE l gone (i+1)=zlE l gone i:=by
 rw[zlF hi]
 refine List.filter_eq_self.2 fun x hx=> ?_
 have:=List.find?_eq_none.1 hf x hx
 simpa[bne]using this
set_option maxHeartbeats 2000000 in
theorem zlG (s:St) (h:Small s) (hs:SL s.locks) (hnd:∀k∈s.locks,k.line.Nodup) (ht:0≤s.token∧s.token≤zaL) (gone:List Int) (hg:gone.length<2^30):
  CallOK Tryz.prog 61 [.f (zq7 s), .f (al gone.length (zaw gone))] (fun r o=>r=[zoJ (za7 s gone)]∧o=[]):=by
 refine CallOK.nil ?_
 refine zac zar mixed (T:=Ty) (n:=47) Tryz.func61 (c:=Tryz.f61.body.getD .skip) rfl Tryz.results61 Tryz.ntmps61 Tryz.call61 ?_
 simp only[Tryz.f61,Option.getD]
 have hH:zaL=2^61:=by decide
 have hdp:=zsc s.locks hs h.locks (fun k hk=>⟨(h.line k hk).1,hnd k hk⟩) gone hg s.token (by omega)
 obtain⟨⟨g1,g2⟩,_⟩:=zcZ gone s.token (s.locks.map (zam gone)) 0 (Int.le_refl _)
 have g1:0≤(zcb s.locks gone s.token).2:=g1
 have g2:(zcb s.locks gone s.token).2≤0+(s.locks.map (zam gone)).length:=g2
 rw[List.length_map]at g2
 have hw:IntKind.i64.wrap (s.token+(zcb s.locks gone s.token).2)=s.token+(zcb s.locks gone s.token).2:=wrap64 (by omega) (by have:=h.locks;omega)
 obtain⟨LD,hD⟩:∃D,D=(zcb s.locks gone s.token).1:=⟨_,rfl⟩
 obtain⟨g,hg0⟩:∃g,g=(zcb s.locks gone s.token).2:=⟨_,rfl⟩
 have hwi:za7 s gone=⟨s.time,s.num,s.token+g,zl4 s.sess gone,LD,s.memos⟩:=by rw[hD,hg0];rfl
 rw[hwi]
 rw[←hD,←hg0]at hdp
 rw[←hg0]at hw
 repeat'(first|(with_reducible first|refine za3 4 ?_|refine zaP 4 ?_|refine zaQ 4 ?_)|refine zu hw ?_|exact zd hw|(with_reducible first|refine zab _ _ ?_)|refine zc (hdp) ?_|refine zg (hdp) ?_|(refine zaa ?_ ?_<;>intro hb)|(refine And.intro ?_ ?_;exact zI)|(refine And.intro ?_ ?_<;>intro hg)|exact zC|fail)
 refine za9 (za2 (Gh.sealF 2 4 (.own ⟨2,5,7⟩ 0 LD.length) ?_) ?_)
 ·exact zo0
 refine zf0 ?_
 refine za2 (Gh.dropRow 2 5 rfl) ?_
 simp only[zY,Nat.reduceSub,Nat.reduceEqDiff,Nat.reduceAdd,Nat.reduceMul,Nat.reduceLeDiff,Nat.reduceLT,Nat.reduceBEq,reduceCtorEq]
 repeat'(first|refine zq0 ?_|exact zd0|(refine zaa ?_ ?_<;>intro hb)|(refine And.intro ?_ ?_;exact zI)|(refine And.intro ?_ ?_<;>intro hg)|exact zC|fail)
 rw[show(D.sl s.sess.length (zaE s.sess))=D.sl (zlE s.sess gone 0).length (zaE (zlE s.sess gone 0)) from by rw[show zlE s.sess gone 0=s.sess from zr9]]
 refine zao (τ:=Nat) (fun i=>⟨[dd,al gone.length (zaw gone), .one (.ptr ⟨2,0,1⟩ 0),dd, .one (.ptr ⟨4,0,1⟩ 0),dd,dd,ai i,dd,dd,dd,dd,dd,dd,dd,dd,dd,dd,dd,dd,dd,dd,dd,dd,dd,dd,dd,dd,dd,dd,dd,dd,dd,dd,dd,dd,dd,dd,dd,dd,dd,dd,dd,dd,dd,dd,dd],[(2,{next:=2,l:=[some {e:=1,var:=true,fz:=false,sz:=0,cells:=[di s.time,di s.num,di (s.token+g), .d (.sl (zlE s.sess gone i).length (zaE (zlE s.sess gone i))), .d (.sl LD.length (zaf LD)), .d (.sl s.memos.length (zav s.memos))]},none,none,none,none,none,none]}),(4,{next:=2,l:=[some {e:=1,var:=true,fz:=false,sz:=0,cells:=[di 0,di 0,di 0, .d (.v (.slice none 0 0)), .d (.v (.slice none 0 0)), .d (.v (.slice none 0 0))]},none,none,none,none,none,none]}),(16,⟨2,[]⟩),(5,⟨2,[]⟩),(8,⟨2,[]⟩),(39,⟨2,[]⟩)]⟩)
  (fun i=>i≤gone.length) (fun _=>()) (fun i=>gone.length - i) 0
  (Gh.canon [2,4] [8,39] [] zK rfl rfl) (Nat.zero_le _) ?_
 intro i hi0 hF K hK
 refine zw ?_
 refine zaa (fun hlt=> ?_) (fun hge=> ?_)
 ·have hi:i<gone.length:=by simpa using hlt
  have hat:=zcN hi
  have hwi:=zan hi (by omega)
  have hcl:(zlE s.sess gone i).length<2^30:=Nat.lt_of_le_of_lt (List.length_filter_le ..) h.sess
  have hrc:=zqt (zlE s.sess gone i) hcl gone[i]
  cases hf:zaF (zlE s.sess gone i) gone[i]with
  |none=>
   rw[hf]at hrc
   simp only[Option.isSome_none,Bool.false_eq_true,if_false]at hrc
   have hz:((6:Int)==0)=false:=rfl
   repeat'(first|refine zq (I hat (I hz (I @zah zca))) ?_|exact zd (I hat (I hz (I @zah zca)))|refine zc (hrc) ?_|refine zg (hrc) ?_|(refine zaa ?_ ?_<;>intro hb)|(refine And.intro ?_ ?_;exact zI)|(refine And.intro ?_ ?_<;>intro hg)|exact zC|fail)
   rw[←zqp hi hf]
   exact hK _ (i+1) (Gh.canon [2,4] [] [] (zk hwi) rfl rfl) hi rfl (by omega)
  |some x=>
   rw[hf]at hrc
   simp only[Option.isSome_some,if_true]at hrc
   rw[←zlF hi]at hrc
   have hz:((0:Int)==0)=true:=rfl
   repeat'(first|(with_reducible first|refine za3 6 ?_|refine zaP 6 ?_|refine zaQ 6 ?_)|refine zu (I hat (I hz (I @zah zca))) ?_|exact zd (I hat (I hz (I @zah zca)))|(with_reducible first|refine zab _ _ ?_)|refine zc (hrc) ?_|refine zg (hrc) ?_|(refine zaa ?_ ?_<;>intro hb)|(refine And.intro ?_ ?_;exact zI)|(refine And.intro ?_ ?_<;>intro hg)|exact zC|fail)
   refine za9 (za2 (Gh.sealF 2 3 (.own ⟨2,4,2⟩ 0 (zlE s.sess gone (i+1)).length) ?_) ?_)
   ·exact zo0
   refine zf0 ?_
   refine za2 (Gh.dropRow 2 4 rfl) ?_
   simp only[zY,Nat.reduceSub,Nat.reduceEqDiff,Nat.reduceAdd,Nat.reduceMul,Nat.reduceLeDiff,Nat.reduceLT,Nat.reduceBEq,reduceCtorEq]
   repeat'(first|refine zq0 ?_|exact zd0|(refine zaa ?_ ?_<;>intro hb)|(refine And.intro ?_ ?_;exact zI)|(refine And.intro ?_ ?_<;>intro hg)|exact zC|fail)
   exact hK _ (i+1) (Gh.canon [2,4] [] [] (zk hwi) rfl rfl) hi rfl (by omega)
 ·have hi:i=gone.length:=by
   have:¬(i:Int)<gone.length:=by simpa using hge
   omega
  subst hi
  have he:zlE s.sess gone gone.length=zl4 s.sess gone:=by unfold zlE;rw[List.take_length]
  rw[he]
  repeat'(first|refine zq0 ?_|exact zd0|(refine zaa ?_ ?_<;>intro hb)|(refine And.intro ?_ ?_;exact zI)|(refine And.intro ?_ ?_<;>intro hg)|exact zC|fail)
  simp[zbj,zdo,zbr,za4]
theorem zfo {s:St} (hr:RightS s):∀k∈s.locks,k.line.Nodup:=fun k hk=>zmw (hr.lok k hk).2.2.1
set_option maxHeartbeats 2000000 in
theorem zhW (s:St) (h:Small s) (hr:RightS s) (time lease:Int):CallOK Tryz.prog 33 [.f (zq7 s), .f (ai time), .f (ai lease)]
  (fun r o=>r=[zoJ (zaU s time lease)]∧o=[]):=by
 refine zac zar mixed (T:=Ty) (n:=26) Tryz.func33 (c:=Tryz.f33.body.getD .skip) rfl Tryz.results33 Tryz.ntmps33 Tryz.call33 ?_
 simp only[Tryz.f33,Option.getD]
 have h':Small {s with time:=zbL s time}:=⟨h.sess,h.locks,h.memos,h.line,h.held⟩
 have htm:0≤zbL s time∧zbL s time≤zaL:=by
  have:=hr.time
  unfold zbL
  split
  ·rename_i hc
   simp only[Bool.and_eq_true,decide_eq_true_eq]at hc
   omega
  ·exact this
 have hdu:=zua s.sess h.sess (zbL s time) (max lease 1) (fun x hx=>(zb6.1 (hr.sok x hx).1).2.2) htm
 have hwo:=zlG {s with time:=zbL s time} h' hr.ls (fun k hk=>zfo hr k hk) hr.token (zgP s.sess (zbL s time) (max lease 1)) (zkm h _ _)
 have hav:zaU s time lease=za7 {s with time:=zbL s time} (zgP s.sess (zbL s time) (max lease 1)):=rfl
 rw[hav]
 cases ha:decide (time>s.time)&&decide (time≤2305843009213693952)
 ·have htp:zbL s time=s.time:=by unfold zbL;rw[show(decide (time>s.time)&&decide (time≤zaL))=false from ha];rfl
  rw[htp]at hdu hwo⊢
  repeat'(first|(with_reducible first|refine zab _ _ ?_|refine zaV ?_|refine zaW ?_)|rw[zaj]|simp only[ha,zfc,zY,Int.reduceEq,Int.reduceBEq,Int.reduceBNe,Nat.reduceSub,Nat.reduceEqDiff,Nat.reduceAdd,Nat.reduceMul,Nat.reduceLeDiff,Nat.reduceLT,Nat.reduceBEq,reduceCtorEq]|((first|((try refine zax ?_);apply zaA)|(apply zaB;intro _));(solve|exact(hdu)|exact(hwo)|(refine CallOK.le (hdu) ?_;exact zM)|(refine CallOK.le (hwo) ?_;exact zM)|fail);try case hn=>rfl)|refine zal ?_|refine zaa (fun hb=> ?_) (fun hb=> ?_)|(refine And.intro ?_ ?_;exact zI)|refine And.intro (fun hg=> ?_) (fun hg=> ?_)|exact zC|fail)
  rfl
 ·have htp:zbL s time=time:=by unfold zbL;rw[show(decide (time>s.time)&&decide (time≤zaL))=true from ha];rfl
  rw[htp]at hdu hwo⊢
  repeat'(first|(with_reducible first|refine zab _ _ ?_|refine zaV ?_|refine zaW ?_)|rw[zaj]|simp only[ha,zfc,zY,Int.reduceEq,Int.reduceBEq,Int.reduceBNe,Nat.reduceSub,Nat.reduceEqDiff,Nat.reduceAdd,Nat.reduceMul,Nat.reduceLeDiff,Nat.reduceLT,Nat.reduceBEq,reduceCtorEq]|((first|((try refine zax ?_);apply zaA)|(apply zaB;intro _));(solve|exact(hdu)|exact(hwo)|(refine CallOK.le (hdu) ?_;exact zM)|(refine CallOK.le (hwo) ?_;exact zM)|fail);try case hn=>rfl)|refine zal ?_|refine zaa (fun hb=> ?_) (fun hb=> ?_)|(refine And.intro ?_ ?_;exact zI)|refine And.intro (fun hg=> ?_) (fun hg=> ?_)|exact zC|fail)
  rfl
theorem zjY (s:St) (h:Small s) (c code ahead:Int):CallOK Tryz.prog 104 [.f (zq7 s), .f (ai c), .f (ai code), .f (ai ahead)]
  (fun r o=>r=[ze9 ⟨code,((zaF s.sess c).getD zee).num,ahead,zbd s.locks c⟩]∧o=[]):=by
 refine zac zar mixed (T:=Ty) (n:=27) Tryz.func104 (c:=Tryz.f104.body.getD .skip) rfl Tryz.results104 Tryz.ntmps104 Tryz.call104 ?_
 simp only[Tryz.f104,Option.getD]
 have hfi:=zea s.sess (by have:=h.sess;omega) c
 have hhe:=zsb s.locks h.locks c
 repeat'(first|refine zq0 ?_|exact zd0|refine zc (hfi) ?_|refine zg (hfi) ?_|refine zc (hhe) ?_|refine zg (hhe) ?_|(refine zaa ?_ ?_<;>intro hb)|(refine And.intro ?_ ?_;exact zI)|(refine And.intro ?_ ?_<;>intro hg)|exact zC|fail)
 rfl
theorem ziY {s:St} (hr:RightS s) {c:Int} (hc:isClient c=true) (hf:zaF s.sess c=none) (he:((zb7 s.sess c (s.num+1) s.time).2 !=0)=false):
  (zb7 s.sess c (s.num+1) s.time).1.length≤s.sess.length+1∧((zaF (zb7 s.sess c (s.num+1) s.time).1 c).getD zee).num=s.num+1:=by
 by_cases hN:s.num+1≤zaL
 ·rw[zja hr hc hN hf]at he⊢
  split at he
  ·cases he
  ·rename_i h5
   rw[if_neg h5]
   refine⟨?_, ?_⟩
   ·simp only[List.length_append,List.length_cons,List.length_take,List.length_drop];omega
   ·have h1:(s.sess.take (zdA s.sess c)).find? (fun x=>x.client==c)=none:=List.find?_eq_none.2 fun x hx=>List.find?_eq_none.1 hf x (List.mem_of_mem_take hx)
    simp only[zaF,List.find?_append,h1,Option.none_or,List.find?_cons,beq_self_eq_true,Option.getD_some]
 ·exfalso
  have:zb7 s.sess c (s.num+1) s.time=([],1):=by
   unfold zb7
   rw[if_pos (by simp only[Bool.or_eq_true,decide_eq_true_eq];omega)]
  rw[this]at he
  cases he
set_option maxHeartbeats 2000000 in
theorem zqo (s:St) (h:Small s) (hr:RightS s) (c:Int) (hc:isClient c=true):CallOK Tryz.prog 101 [.f (zq7 s), .f (ai c)]
  (fun r o=>r=[zoJ (zbt s c).1,ze9 (zbt s c).2]∧o=[]):=by
 refine CallOK.nil ?_
 refine zac zar mixed (T:=Ty) (n:=49) Tryz.func101 (c:=Tryz.f101.body.getD .skip) rfl Tryz.results101 Tryz.ntmps101 Tryz.call101 ?_
 simp only[Tryz.f101,Option.getD]
 have hfi:=zea s.sess (by have:=h.sess;omega) c
 have hn:=hr.num
 have hH:zaL=2^61:=by decide
 have hw:IntKind.i64.wrap (s.num+1)=s.num+1:=wrap64 (by omega) (by omega)
 cases hf:zaF s.sess c with
 |some x=>
  have hto:=zjY s h c 7 0
  rw[hf]at hfi hto
  simp only[Option.isSome_some,Option.getD_some]at hfi hto
  have ho:zbt s c=(s,⟨7,x.num,0,zbd s.locks c⟩):=by unfold zbt;rw[hf]
  rw[ho]
  repeat'(first|refine zq0 ?_|exact zd0|refine zc (hfi) ?_|refine zg (hfi) ?_|refine zc (hto) ?_|refine zg (hto) ?_|(refine zaa ?_ ?_<;>intro hb)|(refine And.intro ?_ ?_;exact zI)|(refine And.intro ?_ ?_<;>intro hg)|exact zC|fail)
  simp[zbj,zdo,zbr,za4]
 |none=>
  rw[hf]at hfi
  simp only[Option.isSome_none,Option.getD_none]at hfi
  have hop:=zsa s.sess hr.ss h.sess c (s.num+1) s.time hc (by omega) hr.time hf (zdZ hr)
  have ho:zbt s c=if((zb7 s.sess c (s.num+1) s.time).2 !=0)=true then(s,⟨(zb7 s.sess c (s.num+1) s.time).2,0,0,[]⟩)else
    ({s with sess:=(zb7 s.sess c (s.num+1) s.time).1,num:=s.num+1},⟨0,s.num+1,0,zbd s.locks c⟩):=by unfold zbt;rw[hf];simp only[bne_iff_ne]
  cases he:(zb7 s.sess c (s.num+1) s.time).2 !=0
  ·rw[he,if_neg (by simp)]at ho
   rw[ho]
   have hsm:Small {s with sess:=(zb7 s.sess c (s.num+1) s.time).1,num:=s.num+1}:=⟨by have:=(ziY hr hc hf he).1;have:=hr.sl;simp only;omega,h.locks,h.memos,h.line,h.held⟩
   have hto:=zjY {s with sess:=(zb7 s.sess c (s.num+1) s.time).1,num:=s.num+1} hsm c 0 0
   have hfo:((zaF (zb7 s.sess c (s.num+1) s.time).1 c).getD zee).num=s.num+1:=(ziY hr hc hf he).2
   simp only[hfo]at hto
   repeat'(first|(with_reducible first|refine za3 8 ?_|refine zaP 8 ?_|refine zaQ 8 ?_)|refine zu (I hw he) ?_|exact zd (I hw he)|(with_reducible first|refine zab _ _ ?_)|refine zc (hfi) ?_|refine zg (hfi) ?_|refine zc (hop) ?_|refine zg (hop) ?_|(refine zaa ?_ ?_<;>intro hb)|(refine And.intro ?_ ?_;exact zI)|(refine And.intro ?_ ?_<;>intro hg)|exact zC|fail)
   refine za9 (za2 (Gh.sealF 2 3 (.own ⟨2,4,7⟩ 0 (zb7 s.sess c (s.num+1) s.time).1.length) ?_) ?_)
   ·exact zo0
   refine zf0 ?_
   repeat'(first|refine zq hw ?_|exact zd hw|refine zc (hto) ?_|refine zg (hto) ?_|(refine zaa ?_ ?_<;>intro hb)|(refine And.intro ?_ ?_;exact zI)|(refine And.intro ?_ ?_<;>intro hg)|exact zC|fail)
   simp[zbj,zdo,zbr,za4]
  ·rw[he,if_pos rfl]at ho
   rw[ho]
   repeat'(first|refine zq (I hw he) ?_|exact zd (I hw he)|refine zc (hfi) ?_|refine zg (hfi) ?_|refine zc (hop) ?_|refine zg (hop) ?_|(refine zaa ?_ ?_<;>intro hb)|(refine And.intro ?_ ?_;exact zI)|(refine And.intro ?_ ?_<;>intro hg)|exact zC|fail)
   simp[zbj,zdo,zbr,za4]
theorem zot {s:St} (hr:RightS s) {c:Int} {x:Sess} (hf:zaF s.sess c=some x):((zaF (zbi s.sess c s.time).1 c).getD zee).num=x.num∧(zbi s.sess c s.time).1.length=s.sess.length:=by
 rw[zdE hr hf]
 refine⟨?_,by simp only[List.length_set]⟩
 simp only
 rw[←zlH hr.ss hf]
 unfold zaF
 rw[List.find?_map,show((fun y:Sess=>y.client==c)∘zcV c s.time)=fun y:Sess=>y.client==c from by funext y;simp only[Function.comp,zcV];split<;>rfl]
 rw[show s.sess.find? (fun y:Sess=>y.client==c)=some x from hf]
 simp only[Option.map_some,Option.getD_some,zcV]
 split<;>rfl
theorem zou {l:List Lk} {name:ByteArray} {c t:Int} {w:Bool} (hl:∀k∈l,k.line.length<2^30∧k.name.size<2^62) (hs:SL l) (hll:∀k∈l,k.line.length≤3) (hn:name.size<2^62):
  ∀k∈(zaI l name c t w).1,k.line.length<2^30∧k.name.size<2^62:=by
 intro k hk
 unfold zaI at hk
 cases hf:zcs l name with
 |none=>
  rw[hf]at hk
  simp only at hk
  split at hk
  ·cases hk
  ·rcases List.mem_append.1 hk with hk|hk
   ·exact hl k (List.mem_of_mem_take hk)
   ·rcases List.mem_cons.1 hk with rfl|hk
    ·exact⟨by simp,hn⟩
    ·exact hl k (List.mem_of_mem_drop hk)
 |some k0=>
  rw[hf]at hk
  simp only at hk
  obtain⟨⟨hi,he⟩,_⟩:=zct hs hf
  have hk0:=hl k0 (he▸List.getElem_mem hi)
  have hk3:=hll k0 (he▸List.getElem_mem hi)
  split at hk
  ·cases hk
  ·split at hk
   ·cases hk
   ·split at hk
    ·exact hl k hk
    ·split at hk
     ·cases hk
     ·rcases List.mem_or_eq_of_mem_set hk with hk|rfl
      ·exact hl k hk
      ·refine⟨?_,hk0.2⟩
       simp only
       unfold zdn
       repeat' split
       all_goals simp
       all_goals omega
theorem zov {l:List Lk} {name:ByteArray} {c t:Int} (hl:∀k∈l,k.line.length<2^30∧k.name.size<2^62) (hs:SL l):
  ∀k∈(zbb l name c t).1,k.line.length<2^30∧k.name.size<2^62:=by
 intro k hk
 unfold zbb at hk
 cases hf:zcs l name with
 |none=>rw[hf]at hk;cases hk
 |some k0=>
  rw[hf]at hk
  simp only at hk
  obtain⟨⟨hi,he⟩,_⟩:=zct hs hf
  have hk0:=hl k0 (he▸List.getElem_mem hi)
  split at hk
  ·unfold zcC at hk
   split at hk
   ·exact hl k (List.mem_of_mem_eraseIdx hk)
   ·rename_i hline
    rcases List.mem_or_eq_of_mem_set hk with hk|rfl
    ·exact hl k hk
    ·refine⟨?_,hk0.2⟩
     have:=hk0.1
     rw[hline,List.length_cons]at this
     simp only;omega
  ·split at hk
   ·rcases List.mem_or_eq_of_mem_set hk with hk|rfl
    ·exact hl k hk
    ·refine⟨?_,hk0.2⟩
     simp only
     unfold zcu
     split
     ·exact hk0.1
     ·exact Nat.lt_of_le_of_lt (List.length_eraseIdx_le ..) hk0.1
   ·cases hk
theorem zos {l:List Lk} {name:ByteArray} {c t:Int} {w:Bool} (h:((zaI l name c t w).2.2==10)=false):(zaI l name c t w).2.1=0:=by
 revert h
 unfold zaI
 cases zcs l name with
 |none=>simp only;split<;>intros<;>rfl
 |some k=>
  simp only
  repeat' split
  all_goals first|(intros;rfl)|(intro h;cases h)
set_option maxHeartbeats 8000000 in
theorem zr8 (s:St) (h:Small s) (hr:RightS s) (r:Req) (hro:r.ok) (hm:Req.may r=true):CallOK Tryz.prog 64 [.f (zq7 s), .f (.agg (r.enc.map C.d))]
  (fun x o=>x=[zoJ (za1 s r).1,ze9 (za1 s r).2]∧o=[]):=by
 refine CallOK.nil ?_
 refine zac zar mixed (T:=Ty) (n:=147) Tryz.func64 (c:=Tryz.f64.body.getD .skip) rfl Tryz.results64 Tryz.ntmps64 Tryz.call64 ?_
 simp only[Tryz.f64,Option.getD]
 obtain⟨hc,_,hnm⟩:=zf7 hm
 have hfi:=zea s.sess (by have:=h.sess;omega) r.client
 have hT:=hr.token
 have hH:zaL=2^61:=by decide
 have hll:∀k∈s.locks,k.line.length<2^30:=fun k hk=>(h.line k hk).1
 have hl3:∀k∈s.locks,k.line.length≤3:=fun k hk=>(zbJ.1 (hr.lok k hk).2.2.1).1
 have hlf:∀k∈s.locks,k.line.length<2^30∧k.line.Nodup:=fun k hk=>⟨hll k hk,zfo hr k hk⟩
 cases h1:r.kind==1
 ·cases hf:zaF s.sess r.client with
  |none=>
   rw[hf]at hfi
   simp only[Option.isSome_none,Option.getD_none]at hfi
   have hd:za1 s r=(s,⟨9,0,0,[]⟩):=by unfold za1;rw[if_neg (by rw[h1];simp),hf]
   rw[hd]
   repeat'(first|refine zq h1 ?_|exact zd h1|refine zc (hfi) ?_|refine zg (hfi) ?_|(refine zaa ?_ ?_<;>intro hb)|(refine And.intro ?_ ?_;exact zI)|(refine And.intro ?_ ?_<;>intro hg)|exact zC|fail)
   all_goals simp[zbj,zdo,zbr,za4]
  |some x=>
   rw[hf]at hfi
   simp only[Option.isSome_some,Option.getD_some]at hfi
   cases hx:x.num !=r.session
   ·have hrn:=zqs s.sess hr.ss h.sess r.client s.time hr.time (by rw[hf];rfl)
    have hwt:IntKind.i64.wrap (s.token+1)=s.token+1:=wrap64 (by omega) (by omega)
    obtain⟨hrf,hrl⟩:=zot hr hf
    obtain⟨S1,hS1⟩:∃S1,S1=(zbi s.sess r.client s.time).1:=⟨_,rfl⟩
    rw[←hS1]at hrf hrl
    have hsm:∀(t:Int) (L:List Lk),L.length<2^30→(∀k∈L,k.line.length<2^30∧k.name.size<2^62)→Small ⟨s.time,s.num,t,S1,L,s.memos⟩:=fun t L h1 h2=>⟨by simp only;have:=h.sess;omega,h1,h.memos,h2,h.held⟩
    have hto:∀(t:Int) (L:List Lk) (code ahead:Int),L.length<2^30→(∀k∈L,k.line.length<2^30∧k.name.size<2^62)→CallOK Tryz.prog 104 [.f (zq7 ⟨s.time,s.num,t,S1,L,s.memos⟩), .f (ai r.client), .f (ai code), .f (ai ahead)]
      (fun y o=>y=[ze9 ⟨code,x.num,ahead,zbd L r.client⟩]∧o=[]):=fun t L code ahead h1 h2=>by
     have:=zjY ⟨s.time,s.num,t,S1,L,s.memos⟩ (hsm t L h1 h2) r.client code ahead
     simp only[hrf]at this
     exact this
    have hd0:za1 s r=if(r.kind==3||r.kind==4)=true then
      (if((zaI s.locks r.name r.client s.token (r.kind==3)).2.2==0)=true then(⟨s.time,s.num,s.token+1,S1,(zaI s.locks r.name r.client s.token (r.kind==3)).1,s.memos⟩,⟨(zaI s.locks r.name r.client s.token (r.kind==3)).2.2,x.num,0,zbd (zaI s.locks r.name r.client s.token (r.kind==3)).1 r.client⟩)
      else if((zaI s.locks r.name r.client s.token (r.kind==3)).2.2==10)=true then(⟨s.time,s.num,s.token,S1,(zaI s.locks r.name r.client s.token (r.kind==3)).1,s.memos⟩,⟨(zaI s.locks r.name r.client s.token (r.kind==3)).2.2,x.num,(zaI s.locks r.name r.client s.token (r.kind==3)).2.1,zbd (zaI s.locks r.name r.client s.token (r.kind==3)).1 r.client⟩)
      else(⟨s.time,s.num,s.token,S1,s.locks,s.memos⟩,⟨(zaI s.locks r.name r.client s.token (r.kind==3)).2.2,x.num,0,zbd s.locks r.client⟩))
     else if(r.kind==5)=true then
      (if((zbb s.locks r.name r.client s.token).2.2==0)=true then(⟨s.time,s.num,s.token+(zbb s.locks r.name r.client s.token).2.1,S1,(zbb s.locks r.name r.client s.token).1,s.memos⟩,⟨(zbb s.locks r.name r.client s.token).2.2,x.num,0,zbd (zbb s.locks r.name r.client s.token).1 r.client⟩)
      else(⟨s.time,s.num,s.token,S1,s.locks,s.memos⟩,⟨(zbb s.locks r.name r.client s.token).2.2,x.num,0,zbd s.locks r.client⟩))
     else if(r.kind==6)=true then(za7 ⟨s.time,s.num,s.token,S1,s.locks,s.memos⟩ [r.client],⟨0,0,0,[]⟩)
     else(⟨s.time,s.num,s.token,S1,s.locks,s.memos⟩,⟨0,x.num,0,zbd s.locks r.client⟩):=by
     rw[hS1]
     unfold za1
     rw[if_neg (by rw[h1];simp),hf]
     simp only
     rw[if_neg (by rw[hx];simp)]
     split
     ·by_cases e0:(zaI s.locks r.name r.client s.token (r.kind==3)).2.2=0
      ·rw[if_pos e0,if_neg (by rw[e0];decide),if_pos (by simpa using e0)]
      ·by_cases e10:(zaI s.locks r.name r.client s.token (r.kind==3)).2.2=10
       ·rw[if_neg e0,if_pos e10,if_pos e10,if_neg (by simpa using e0),if_pos (by simpa using e10)]
       ·rw[if_neg e0,if_neg e10,if_neg e10,if_neg (by simpa using e0),if_neg (by simpa using e10)]
     ·split
      ·by_cases e0:(zbb s.locks r.name r.client s.token).2.2=0
       ·rw[if_pos e0,if_pos (by simpa using e0)]
       ·rw[if_neg e0,if_neg (by simpa using e0)]
      ·rfl
    rw[←hS1]at hrn
    have htl:=zkh s.locks r.name r.client s.token (r.kind==3)
    have hfl:=zki s.locks r.name r.client s.token
    have hnl:=hr.ll
    have htn:=zou (name:=r.name) (c:=r.client) (t:=s.token) (w:=r.kind==3) h.line hr.ls hl3 hro.2.2.2.2
    have hfn:=zov (name:=r.name) (c:=r.client) (t:=s.token) h.line hr.ls
    have hta:=zse s.locks hr.ls h.locks hll r.name r.client s.token (by omega) hc (r.kind==3)
    have hfr:=znG s.locks hr.ls h.locks hlf r.name r.client s.token (by omega)
    have htz:=zos (l:=s.locks) (name:=r.name) (c:=r.client) (t:=s.token) (w:=r.kind==3)
    cases h3:r.kind==3
    ·rw[h3]at hta htl htn htz
     rw[h3,Bool.false_or]at hd0
     cases h4:r.kind==4
     ·rw[h4,if_neg (by simp)]at hd0
      cases h5:r.kind==5
      ·rw[h5,if_neg (by simp)]at hd0
       cases h6:r.kind==6
       ·rw[h6,if_neg (by simp)]at hd0
        rw[hd0]
        have ht1:=hto s.token s.locks 0 0 h.locks h.line
        repeat'(first|(with_reducible first|refine za3 8 ?_|refine zaP 8 ?_|refine zaQ 8 ?_)|refine zu (I h1 (I hx (I h3 (I h4 (I h5 h6))))) ?_|exact zd (I h1 (I hx (I h3 (I h4 (I h5 h6)))))|(with_reducible first|refine zab _ _ ?_)|refine zc (hfi) ?_|refine zg (hfi) ?_|refine zc (hrn) ?_|refine zg (hrn) ?_|(refine zaa ?_ ?_<;>intro hb)|(refine And.intro ?_ ?_;exact zI)|(refine And.intro ?_ ?_<;>intro hg)|exact zC|fail)
        refine za9 (za2 (Gh.sealF 2 3 (.own ⟨2,4,7⟩ 0 S1.length) ?_) ?_)
        ·exact zo0
        refine zf0 ?_
        repeat'(first|refine zq (I h1 (I hx (I h3 (I h4 (I h5 h6))))) ?_|exact zd (I h1 (I hx (I h3 (I h4 (I h5 h6)))))|refine zc (ht1) ?_|refine zg (ht1) ?_|(refine zaa ?_ ?_<;>intro hb)|(refine And.intro ?_ ?_;exact zI)|(refine And.intro ?_ ?_<;>intro hg)|exact zC|fail)
        simp[zbj,zdo,zbr,za4]
       ·rw[h6,if_pos rfl]at hd0
        rw[hd0]
        have hwo:=zlG ⟨s.time,s.num,s.token,S1,s.locks,s.memos⟩ (hsm s.token s.locks h.locks h.line) hr.ls (fun k hk=>zfo hr k hk) hr.token [r.client] (by simp)
        repeat'(first|(with_reducible first|refine za3 8 ?_|refine zaP 8 ?_|refine zaQ 8 ?_)|refine zu (I h1 (I hx (I h3 (I h4 (I h5 h6))))) ?_|exact zd (I h1 (I hx (I h3 (I h4 (I h5 h6)))))|(with_reducible first|refine zab _ _ ?_)|refine zc (hfi) ?_|refine zg (hfi) ?_|refine zc (hrn) ?_|refine zg (hrn) ?_|(refine zaa ?_ ?_<;>intro hb)|(refine And.intro ?_ ?_;exact zI)|(refine And.intro ?_ ?_<;>intro hg)|exact zC|fail)
        refine za9 (za2 (Gh.sealF 2 3 (.own ⟨2,4,7⟩ 0 S1.length) ?_) ?_)
        ·exact zo0
        refine zf0 ?_
        repeat'(first|refine zq (I h1 (I hx (I h3 (I h4 (I h5 h6))))) ?_|exact zd (I h1 (I hx (I h3 (I h4 (I h5 h6)))))|refine zc (hwo) ?_|refine zg (hwo) ?_|(refine zaa ?_ ?_<;>intro hb)|(refine And.intro ?_ ?_;exact zI)|(refine And.intro ?_ ?_<;>intro hg)|exact zC|fail)
        simp[zbj,zdo,zbr,za4]
      ·rw[h5,if_pos rfl]at hd0
       have hgi:=zkj s.locks r.name r.client s.token
       generalize hT0:zbb s.locks r.name r.client s.token=T at*
       cases e0:T.2.2==0
       ·rw[e0,if_neg (by simp)]at hd0
        rw[hd0]
        have ht1:=hto s.token s.locks T.2.2 0 h.locks h.line
        repeat'(first|(with_reducible first|refine za3 8 ?_|refine zaP 8 ?_|refine zaQ 8 ?_)|refine zu (I h1 (I hx (I h3 (I h4 (I h5 e0))))) ?_|exact zd (I h1 (I hx (I h3 (I h4 (I h5 e0)))))|(with_reducible first|refine zab _ _ ?_)|refine zc (hfi) ?_|refine zg (hfi) ?_|refine zc (hrn) ?_|refine zg (hrn) ?_|(refine zaa ?_ ?_<;>intro hb)|(refine And.intro ?_ ?_;exact zI)|(refine And.intro ?_ ?_<;>intro hg)|exact zC|fail)
        refine za9 (za2 (Gh.sealF 2 3 (.own ⟨2,4,7⟩ 0 S1.length) ?_) ?_)
        ·exact zo0
        refine zf0 ?_
        repeat'(first|refine zq (I h1 (I hx (I h3 (I h4 (I h5 e0))))) ?_|exact zd (I h1 (I hx (I h3 (I h4 (I h5 e0)))))|refine zc (hfr) ?_|refine zg (hfr) ?_|refine zc (ht1) ?_|refine zg (ht1) ?_|(refine zaa ?_ ?_<;>intro hb)|(refine And.intro ?_ ?_;exact zI)|(refine And.intro ?_ ?_<;>intro hg)|exact zC|fail)
        simp[zbj,zdo,zbr,za4]
       ·rw[e0,if_pos rfl]at hd0
        have hwf:IntKind.i64.wrap (s.token+T.2.1)=s.token+T.2.1:=wrap64 (by omega) (by omega)
        rw[hd0]
        have ht1:=hto (s.token+T.2.1) T.1 T.2.2 0 (by omega) hfn
        repeat'(first|(with_reducible first|refine za3 8 ?_|refine zaP 8 ?_|refine zaQ 8 ?_)|refine zu (I h1 (I hx (I h3 (I h4 (I h5 e0))))) ?_|exact zd (I h1 (I hx (I h3 (I h4 (I h5 e0)))))|(with_reducible first|refine zab _ _ ?_)|refine zc (hfi) ?_|refine zg (hfi) ?_|refine zc (hrn) ?_|refine zg (hrn) ?_|(refine zaa ?_ ?_<;>intro hb)|(refine And.intro ?_ ?_;exact zI)|(refine And.intro ?_ ?_<;>intro hg)|exact zC|fail)
        refine za9 (za2 (Gh.sealF 2 3 (.own ⟨2,4,7⟩ 0 S1.length) ?_) ?_)
        ·exact zo0
        refine zf0 ?_
        repeat'(first|(with_reducible first|refine za3 22 ?_|refine zaP 22 ?_|refine zaQ 22 ?_)|refine zu (I h1 (I hx (I h3 (I h4 (I h5 (I e0 hwf)))))) ?_|exact zd (I h1 (I hx (I h3 (I h4 (I h5 (I e0 hwf))))))|(with_reducible first|refine zab _ _ ?_)|refine zc (hfr) ?_|refine zg (hfr) ?_|(refine zaa ?_ ?_<;>intro hb)|(refine And.intro ?_ ?_;exact zI)|(refine And.intro ?_ ?_<;>intro hg)|exact zC|fail)
        refine za9 (za2 (Gh.sealF 2 4 (.own ⟨2,5,8⟩ 0 T.1.length) ?_) ?_)
        ·exact zo0
        refine zf0 ?_
        repeat'(first|refine zq (I h1 (I hx (I h3 (I h4 (I h5 (I e0 hwf)))))) ?_|exact zd (I h1 (I hx (I h3 (I h4 (I h5 (I e0 hwf))))))|refine zc (ht1) ?_|refine zg (ht1) ?_|(refine zaa ?_ ?_<;>intro hb)|(refine And.intro ?_ ?_;exact zI)|(refine And.intro ?_ ?_<;>intro hg)|exact zC|fail)
        simp[zbj,zdo,zbr,za4]
     ·rw[h4,if_pos rfl]at hd0
      generalize hT0:zaI s.locks r.name r.client s.token false=T at*
      cases e0:T.2.2==0
      ·cases e10:T.2.2==10
       ·rw[e0,if_neg (by simp),e10,if_neg (by simp)]at hd0
        rw[hd0]
        have ht1:=hto s.token s.locks T.2.2 0 h.locks h.line
        have hz:=htz e10
        rw[hz]at hta
        repeat'(first|(with_reducible first|refine za3 8 ?_|refine zaP 8 ?_|refine zaQ 8 ?_)|refine zu (I h1 (I hx (I h3 (I h4 (I e0 e10))))) ?_|exact zd (I h1 (I hx (I h3 (I h4 (I e0 e10)))))|(with_reducible first|refine zab _ _ ?_)|refine zc (hfi) ?_|refine zg (hfi) ?_|refine zc (hrn) ?_|refine zg (hrn) ?_|(refine zaa ?_ ?_<;>intro hb)|(refine And.intro ?_ ?_;exact zI)|(refine And.intro ?_ ?_<;>intro hg)|exact zC|fail)
        refine za9 (za2 (Gh.sealF 2 3 (.own ⟨2,4,7⟩ 0 S1.length) ?_) ?_)
        ·exact zo0
        refine zf0 ?_
        repeat'(first|refine zq (I h1 (I hx (I h3 (I h4 (I e0 (I e10 hwt)))))) ?_|exact zd (I h1 (I hx (I h3 (I h4 (I e0 (I e10 hwt))))))|refine zc (hta) ?_|refine zg (hta) ?_|refine zc (ht1) ?_|refine zg (ht1) ?_|(refine zaa ?_ ?_<;>intro hb)|(refine And.intro ?_ ?_;exact zI)|(refine And.intro ?_ ?_<;>intro hg)|exact zC|fail)
        simp[zbj,zdo,zbr,za4]
       ·rw[e0,if_neg (by simp),e10,if_pos rfl]at hd0
        rw[hd0]
        have ht1:=hto s.token T.1 T.2.2 T.2.1 (by omega) htn
        repeat'(first|(with_reducible first|refine za3 8 ?_|refine zaP 8 ?_|refine zaQ 8 ?_)|refine zu (I h1 (I hx (I h3 (I h4 (I e0 e10))))) ?_|exact zd (I h1 (I hx (I h3 (I h4 (I e0 e10)))))|(with_reducible first|refine zab _ _ ?_)|refine zc (hfi) ?_|refine zg (hfi) ?_|refine zc (hrn) ?_|refine zg (hrn) ?_|(refine zaa ?_ ?_<;>intro hb)|(refine And.intro ?_ ?_;exact zI)|(refine And.intro ?_ ?_<;>intro hg)|exact zC|fail)
        refine za9 (za2 (Gh.sealF 2 3 (.own ⟨2,4,7⟩ 0 S1.length) ?_) ?_)
        ·exact zo0
        refine zf0 ?_
        repeat'(first|(with_reducible first|refine za3 16 ?_|refine zaP 16 ?_|refine zaQ 16 ?_)|refine zu (I h1 (I hx (I h3 (I h4 (I e0 (I e10 hwt)))))) ?_|exact zd (I h1 (I hx (I h3 (I h4 (I e0 (I e10 hwt))))))|(with_reducible first|refine zab _ _ ?_)|refine zc (hta) ?_|refine zg (hta) ?_|(refine zaa ?_ ?_<;>intro hb)|(refine And.intro ?_ ?_;exact zI)|(refine And.intro ?_ ?_<;>intro hg)|exact zC|fail)
        refine za9 (za2 (Gh.sealF 2 4 (.own ⟨2,5,8⟩ 0 T.1.length) ?_) ?_)
        ·exact zo0
        refine zf0 ?_
        repeat'(first|refine zq (I h1 (I hx (I h3 (I h4 (I e0 (I e10 hwt)))))) ?_|exact zd (I h1 (I hx (I h3 (I h4 (I e0 (I e10 hwt))))))|refine zc (ht1) ?_|refine zg (ht1) ?_|(refine zaa ?_ ?_<;>intro hb)|(refine And.intro ?_ ?_;exact zI)|(refine And.intro ?_ ?_<;>intro hg)|exact zC|fail)
        simp[zbj,zdo,zbr,za4]
      ·rw[e0,if_pos rfl]at hd0
       rw[hd0]
       have ht1:=hto (s.token+1) T.1 T.2.2 0 (by omega) htn
       have hz:=htz (by have:T.2.2=0:=(by simpa using e0);rw[this];rfl)
       rw[hz]at hta
       repeat'(first|(with_reducible first|refine za3 8 ?_|refine zaP 8 ?_|refine zaQ 8 ?_)|refine zu (I h1 (I hx (I h3 (I h4 e0)))) ?_|exact zd (I h1 (I hx (I h3 (I h4 e0))))|(with_reducible first|refine zab _ _ ?_)|refine zc (hfi) ?_|refine zg (hfi) ?_|refine zc (hrn) ?_|refine zg (hrn) ?_|(refine zaa ?_ ?_<;>intro hb)|(refine And.intro ?_ ?_;exact zI)|(refine And.intro ?_ ?_<;>intro hg)|exact zC|fail)
       refine za9 (za2 (Gh.sealF 2 3 (.own ⟨2,4,7⟩ 0 S1.length) ?_) ?_)
       ·exact zo0
       refine zf0 ?_
       repeat'(first|(with_reducible first|refine za3 16 ?_|refine zaP 16 ?_|refine zaQ 16 ?_)|refine zu (I h1 (I hx (I h3 (I h4 (I e0 hwt))))) ?_|exact zd (I h1 (I hx (I h3 (I h4 (I e0 hwt)))))|(with_reducible first|refine zab _ _ ?_)|refine zc (hta) ?_|refine zg (hta) ?_|(refine zaa ?_ ?_<;>intro hb)|(refine And.intro ?_ ?_;exact zI)|(refine And.intro ?_ ?_<;>intro hg)|exact zC|fail)
       refine za9 (za2 (Gh.sealF 2 4 (.own ⟨2,5,8⟩ 0 T.1.length) ?_) ?_)
       ·exact zo0
       refine zf0 ?_
       repeat'(first|refine zq (I h1 (I hx (I h3 (I h4 (I e0 hwt))))) ?_|exact zd (I h1 (I hx (I h3 (I h4 (I e0 hwt)))))|refine zc (ht1) ?_|refine zg (ht1) ?_|(refine zaa ?_ ?_<;>intro hb)|(refine And.intro ?_ ?_;exact zI)|(refine And.intro ?_ ?_<;>intro hg)|exact zC|fail)
       simp[zbj,zdo,zbr,za4]
    ·rw[h3]at hta htl htn htz
     rw[h3,Bool.true_or,if_pos rfl]at hd0
     generalize hT0:zaI s.locks r.name r.client s.token true=T at*
     cases e0:T.2.2==0
     ·cases e10:T.2.2==10
      ·rw[e0,if_neg (by simp),e10,if_neg (by simp)]at hd0
       rw[hd0]
       have ht1:=hto s.token s.locks T.2.2 0 h.locks h.line
       have hz:=htz e10
       rw[hz]at hta
       repeat'(first|(with_reducible first|refine za3 8 ?_|refine zaP 8 ?_|refine zaQ 8 ?_)|refine zu (I h1 (I hx (I h3 (I e0 e10)))) ?_|exact zd (I h1 (I hx (I h3 (I e0 e10))))|(with_reducible first|refine zab _ _ ?_)|refine zc (hfi) ?_|refine zg (hfi) ?_|refine zc (hrn) ?_|refine zg (hrn) ?_|(refine zaa ?_ ?_<;>intro hb)|(refine And.intro ?_ ?_;exact zI)|(refine And.intro ?_ ?_<;>intro hg)|exact zC|fail)
       refine za9 (za2 (Gh.sealF 2 3 (.own ⟨2,4,7⟩ 0 S1.length) ?_) ?_)
       ·exact zo0
       refine zf0 ?_
       repeat'(first|refine zq (I h1 (I hx (I h3 (I e0 (I e10 hwt))))) ?_|exact zd (I h1 (I hx (I h3 (I e0 (I e10 hwt)))))|refine zc (hta) ?_|refine zg (hta) ?_|refine zc (ht1) ?_|refine zg (ht1) ?_|(refine zaa ?_ ?_<;>intro hb)|(refine And.intro ?_ ?_;exact zI)|(refine And.intro ?_ ?_<;>intro hg)|exact zC|fail)
       simp[zbj,zdo,zbr,za4]
      ·rw[e0,if_neg (by simp),e10,if_pos rfl]at hd0
       rw[hd0]
       have ht1:=hto s.token T.1 T.2.2 T.2.1 (by omega) htn
       repeat'(first|(with_reducible first|refine za3 8 ?_|refine zaP 8 ?_|refine zaQ 8 ?_)|refine zu (I h1 (I hx (I h3 (I e0 e10)))) ?_|exact zd (I h1 (I hx (I h3 (I e0 e10))))|(with_reducible first|refine zab _ _ ?_)|refine zc (hfi) ?_|refine zg (hfi) ?_|refine zc (hrn) ?_|refine zg (hrn) ?_|(refine zaa ?_ ?_<;>intro hb)|(refine And.intro ?_ ?_;exact zI)|(refine And.intro ?_ ?_<;>intro hg)|exact zC|fail)
       refine za9 (za2 (Gh.sealF 2 3 (.own ⟨2,4,7⟩ 0 S1.length) ?_) ?_)
       ·exact zo0
       refine zf0 ?_
       repeat'(first|(with_reducible first|refine za3 16 ?_|refine zaP 16 ?_|refine zaQ 16 ?_)|refine zu (I h1 (I hx (I h3 (I e0 (I e10 hwt))))) ?_|exact zd (I h1 (I hx (I h3 (I e0 (I e10 hwt)))))|(with_reducible first|refine zab _ _ ?_)|refine zc (hta) ?_|refine zg (hta) ?_|(refine zaa ?_ ?_<;>intro hb)|(refine And.intro ?_ ?_;exact zI)|(refine And.intro ?_ ?_<;>intro hg)|exact zC|fail)
       refine za9 (za2 (Gh.sealF 2 4 (.own ⟨2,5,8⟩ 0 T.1.length) ?_) ?_)
       ·exact zo0
       refine zf0 ?_
       repeat'(first|refine zq (I h1 (I hx (I h3 (I e0 (I e10 hwt))))) ?_|exact zd (I h1 (I hx (I h3 (I e0 (I e10 hwt)))))|refine zc (ht1) ?_|refine zg (ht1) ?_|(refine zaa ?_ ?_<;>intro hb)|(refine And.intro ?_ ?_;exact zI)|(refine And.intro ?_ ?_<;>intro hg)|exact zC|fail)
       simp[zbj,zdo,zbr,za4]
     ·rw[e0,if_pos rfl]at hd0
      rw[hd0]
      have ht1:=hto (s.token+1) T.1 T.2.2 0 (by omega) htn
      have hz:=htz (by have:T.2.2=0:=(by simpa using e0);rw[this];rfl)
      rw[hz]at hta
      repeat'(first|(with_reducible first|refine za3 8 ?_|refine zaP 8 ?_|refine zaQ 8 ?_)|refine zu (I h1 (I hx (I h3 e0))) ?_|exact zd (I h1 (I hx (I h3 e0)))|(with_reducible first|refine zab _ _ ?_)|refine zc (hfi) ?_|refine zg (hfi) ?_|refine zc (hrn) ?_|refine zg (hrn) ?_|(refine zaa ?_ ?_<;>intro hb)|(refine And.intro ?_ ?_;exact zI)|(refine And.intro ?_ ?_<;>intro hg)|exact zC|fail)
      refine za9 (za2 (Gh.sealF 2 3 (.own ⟨2,4,7⟩ 0 S1.length) ?_) ?_)
      ·exact zo0
      refine zf0 ?_
      repeat'(first|(with_reducible first|refine za3 16 ?_|refine zaP 16 ?_|refine zaQ 16 ?_)|refine zu (I h1 (I hx (I h3 (I e0 hwt)))) ?_|exact zd (I h1 (I hx (I h3 (I e0 hwt))))|(with_reducible first|refine zab _ _ ?_)|refine zc (hta) ?_|refine zg (hta) ?_|(refine zaa ?_ ?_<;>intro hb)|(refine And.intro ?_ ?_;exact zI)|(refine And.intro ?_ ?_<;>intro hg)|exact zC|fail)
      refine za9 (za2 (Gh.sealF 2 4 (.own ⟨2,5,8⟩ 0 T.1.length) ?_) ?_)
      ·exact zo0
      refine zf0 ?_
      repeat'(first|refine zq (I h1 (I hx (I h3 (I e0 hwt)))) ?_|exact zd (I h1 (I hx (I h3 (I e0 hwt))))|refine zc (ht1) ?_|refine zg (ht1) ?_|(refine zaa ?_ ?_<;>intro hb)|(refine And.intro ?_ ?_;exact zI)|(refine And.intro ?_ ?_<;>intro hg)|exact zC|fail)
      simp[zbj,zdo,zbr,za4]
   ·have hd:za1 s r=(s,⟨9,0,0,[]⟩):=by unfold za1;rw[if_neg (by rw[h1];simp),hf];simp only;rw[if_pos hx]
    rw[hd]
    repeat'(first|refine zq (I h1 hx) ?_|exact zd (I h1 hx)|refine zc (hfi) ?_|refine zg (hfi) ?_|(refine zaa ?_ ?_<;>intro hb)|(refine And.intro ?_ ?_;exact zI)|(refine And.intro ?_ ?_<;>intro hg)|exact zC|fail)
    all_goals simp[zbj,zdo,zbr,za4]
 ·have hop:=zqo s h hr r.client hc
  have hd:za1 s r=zbt s r.client:=by unfold za1;rw[if_pos h1]
  rw[hd]
  repeat'(first|refine zq h1 ?_|exact zd h1|refine zc (hfi) ?_|refine zg (hfi) ?_|refine zc (hop) ?_|refine zg (hop) ?_|(refine zaa ?_ ?_<;>intro hb)|(refine And.intro ?_ ?_;exact zI)|(refine And.intro ?_ ?_<;>intro hg)|exact zC|fail)
  all_goals simp[zbj,zdo,zbr,za4]
def zbE (n:Int):Prop:=0≤n∧n<256
theorem zbI {n:Int} (h:zbE n):IntKind.i64.wrap n=n:=by have:=h;unfold zbE at this;exact wrap64 (by omega) (by omega)
theorem zci {n:Int} (h:0≤n) (k:Int):n.tmod k=n % k:=Int.tmod_eq_emod_of_nonneg h
def zux:List ByteArray:=[⟨#[97]⟩,⟨#[98]⟩,⟨#[99]⟩,⟨#[100]⟩,⟨#[107,101,121,45,49]⟩,⟨#[116,104,101,45,108,97,115,116,45,111,110,101]⟩]
def zg9 (n:Int):ByteArray:=(zux[(n % 6).toNat]?).getD .empty
theorem six (n:Int):n % 6=0∨n % 6=1∨n % 6=2∨n % 6=3∨n % 6=4∨n % 6=5:=by omega
theorem zoQ (n:Int) (hn:zbE n):CallOK Tryz.prog 136 [.f (au n)] (fun r o=>r=[.one (.d (sD (zg9 n)))]∧o=[]):=by
 refine zac zar mixed (T:=Ty) (n:=9) Tryz.func136 (c:=Tryz.f136.body.getD .skip) rfl Tryz.results136 Tryz.ntmps136 Tryz.call136 ?_
 simp only[Tryz.f136,Option.getD]
 have hw:=zbI hn
 have ht:=zci hn.1 6
 unfold zg9
 rcases six n with h|h|h|h|h|h
 all_goals
  rw[h]at ht⊢
  repeat'(first|(with_reducible first|refine zab _ _ ?_|refine zaV ?_|refine zaW ?_)|rw[zaj]|simp only[hw,ht,Int.reduceToNat,List.drop_succ_cons,List.drop_zero,zY,Int.reduceEq,Int.reduceBEq,Int.reduceBNe,Nat.reduceSub,Nat.reduceEqDiff,Nat.reduceAdd,Nat.reduceMul,Nat.reduceLeDiff,Nat.reduceLT,Nat.reduceBEq,reduceCtorEq]|refine zal ?_|refine zaa (fun hb=> ?_) (fun hb=> ?_)|(refine And.intro ?_ ?_;exact zI)|refine And.intro (fun hg=> ?_) (fun hg=> ?_)|exact zC|fail)
  rfl
def zef (a:Int):Int:=1+a % 6
def zgG (a b:Int):Int:=if zef a=1 then 0 else 1+b % 7
def zfs (a c:Int):ByteArray:=if(zef a==3||zef a==4||zef a==5)=true then zg9 c else .empty
theorem ztb (a b c:Int) (ha:zbE a) (hb:zbE b) (hc:zbE c):CallOK Tryz.prog 96 [.f (au a), .f (au b), .f (au c)] (fun r o=>r=[.agg [.d (iD (zef a)), .d (iD (zgG a b)), .d (sD (zfs a c))]]∧o=[]):=by
 refine zac zar mixed (T:=Ty) (n:=30) Tryz.func96 (c:=Tryz.f96.body.getD .skip) rfl Tryz.results96 Tryz.ntmps96 Tryz.call96 ?_
 simp only[Tryz.f96,Option.getD]
 have hnm:=zoQ c hc
 have hwa:=zbI ha
 have hwb:=zbI hb
 have hta:=zci ha.1 6
 have htb:=zci hb.1 7
 have hws:IntKind.i64.wrap (1+b % 7)=1+b % 7:=wrap64 (by omega) (by omega)
 unfold zfs zgG zef
 have w1:IntKind.i64.wrap 1=1:=rfl
 have w2:IntKind.i64.wrap 2=2:=rfl
 have w3:IntKind.i64.wrap 3=3:=rfl
 have w4:IntKind.i64.wrap 4=4:=rfl
 have w5:IntKind.i64.wrap 5=5:=rfl
 have w6:IntKind.i64.wrap 6=6:=rfl
 rcases six a with h|h|h|h|h|h
 all_goals
  rw[h]at hta⊢
  repeat'(first|(with_reducible first|refine zab _ _ ?_|refine zaV ?_|refine zaW ?_)|rw[zaj]|simp only[hwa,hwb,hta,htb,hws,w1,w2,w3,w4,w5,w6,Int.reduceAdd,Int.reduceEq,Int.reduceBEq,zY,Int.reduceEq,Int.reduceBEq,Int.reduceBNe,Nat.reduceSub,Nat.reduceEqDiff,Nat.reduceAdd,Nat.reduceMul,Nat.reduceLeDiff,Nat.reduceLT,Nat.reduceBEq,reduceCtorEq]|((first|((try refine zax ?_);apply zaA)|(apply zaB;intro _));(solve|exact(hnm)|(refine CallOK.le (hnm) ?_;exact zM)|fail);try case hn=>rfl)|refine zal ?_|refine zaa (fun hb=> ?_) (fun hb=> ?_)|(refine And.intro ?_ ?_;exact zI)|refine And.intro (fun hg=> ?_) (fun hg=> ?_)|exact zC|fail)
structure Act where
 time:Int
 client:Int
 seq:Int
 kind:Int
 session:Int
 name:Int
abbrev Act.enc (a:Act):List D:=[uD a.time,uD a.client,uD a.seq,uD a.kind,uD a.session,uD a.name]
abbrev zf6 (l:List Act):List D:=l.flatMap Act.enc
def zha (a:Act):Prop:=zbE a.time∧zbE a.client∧zbE a.seq∧zbE a.kind∧zbE a.session∧zbE a.name
theorem zoR {l:List Act} {i:Nat} (hi:i<l.length):(zf6 l).drop (i*6)=l[i].enc++(zf6 (l.drop (i+1))):=zcO _ 6 l i hi fun _=>rfl
theorem zgM {l:List Act}:(zf6 l).length=l.length*6:=zcl _ 6 (fun _=>rfl) l
def zq6 (c q k s n:Int):Req:=⟨c % 8,1+q,zef k,zgG k s,zfs k n⟩
theorem ztc (c q k s n:Int) (h1:zbE c) (h2:zbE q) (h3:zbE k) (h4:zbE s) (h5:zbE n):CallOK Tryz.prog 56 [.f (au c), .f (au q), .f (au k), .f (au s), .f (au n)] (fun r o=>r=[.agg ((zq6 c q k s n).enc.map RO.d)]∧o=[]):=by
 refine zac zar mixed (T:=Ty) (n:=22) Tryz.func56 (c:=Tryz.f56.body.getD .skip) rfl Tryz.results56 Tryz.ntmps56 Tryz.call56 ?_
 simp only[Tryz.f56,Option.getD]
 have hcm:=ztb k s n h3 h4 h5
 have hwc:=zbI h1
 have hwq:=zbI h2
 have htc:=zci h1.1 8
 have hq1:IntKind.i64.wrap (1+q)=1+q:=by unfold zbE at h2;exact wrap64 (by omega) (by omega)
 repeat'(first|refine zq (I hwc (I hwq (I htc hq1))) ?_|exact zd (I hwc (I hwq (I htc hq1)))|refine zc (hcm) ?_|refine zg (hcm) ?_|(refine zaa ?_ ?_<;>intro hb)|(refine And.intro ?_ ?_;exact zI)|(refine And.intro ?_ ?_<;>intro hg)|exact zC|fail)
 rfl
theorem zi9 (l:List Memo) (hl:l.length<2^62) (c:Int):CallOK Tryz.prog 42 [.f (al l.length (zav l)), .f (ai c)]
  (fun r o=>r=[.agg (((zaM l c).getD zcB).enc.map RO.d),rb (zaM l c).isSome]∧o=[]):=by
 refine CallOK.nil ?_
 refine zac zar mixed (T:=Ty) (n:=25) Tryz.func42 (c:=Tryz.f42.body.getD .skip) rfl Tryz.results42 Tryz.ntmps42 Tryz.call42 ?_
 simp only[Tryz.f42,Option.getD]
 repeat'(first|refine zq0 ?_|exact zd0|(refine zaa ?_ ?_<;>intro hb)|(refine And.intro ?_ ?_;exact zI)|(refine And.intro ?_ ?_<;>intro hg)|exact zC|fail)
 refine zao (τ:=Nat) (fun i=>⟨[al l.length (zav l),ai c,dd,dd, .one (.ptr ⟨4,0,1⟩ 0),dd,ai i,dd,dd,dd,dd,dd,dd,dd,dd,dd,dd,dd,dd,dd,dd,dd,dd,dd,dd],[(4,{next:=2,l:=[some {e:=1,var:=true,fz:=false,sz:=0,cells:=[di 0,di 0,di 0,di 0,di 0, .d (.v (.slice none 0 0))]},none,none,none,none,none,none]})]⟩)
  (fun i=>i≤l.length) (fun i=>zaM (l.drop i) c) (fun i=>l.length - i) 0
  (Gh.canon [4] [] [] zK rfl rfl) (Nat.zero_le _) ?_
 intro i hi0 hF K hK
 rw[List.drop_zero]at hF
 refine zw ?_
 refine zaa (fun hlt=> ?_) (fun hge=> ?_)
 ·have hi:i<l.length:=by simpa using hlt
  have hat:=zbx hi
  have hw:=zan hi hl
  have hq:zaM (l.drop i) c=if(l[i].client==c)=true then some l[i]else zaM (l.drop (i+1)) c:=by
   unfold zaM
   rw[List.drop_eq_getElem_cons hi,List.find?_cons]
   cases l[i].client==c<;>rfl
  rw[hq]at hF
  repeat'(first|refine zq (I hat (I @zak zca)) ?_|exact zd (I hat (I @zak zca))|(refine zaa ?_ ?_<;>intro hb)|(refine And.intro ?_ ?_;exact zI)|(refine And.intro ?_ ?_<;>intro hg)|exact zC|fail)
  ·rw[if_pos hb]at hF
   rw[←hF]
   simp[zbj,zdo,zbr,za4]
  ·rw[if_neg (by rw[hb];simp)]at hq
   exact hK _ (i+1) (Gh.canon [4] [] [] (zk hw) rfl rfl) hi hq.symm (by omega)
 ·have hi:i=l.length:=by
   have:¬(i:Int)<l.length:=by simpa using hge
   omega
  rw[hi,List.drop_length]at hF
  have hF:none=zaM l c:=hF
  rw[←hF]
  repeat'(first|refine zq0 ?_|exact zd0|(refine zaa ?_ ?_<;>intro hb)|(refine And.intro ?_ ?_;exact zI)|(refine And.intro ?_ ?_<;>intro hg)|exact zC|fail)
  simp[zbj,zdo,zbr,za4,zcB]
def zgN (s:St) (a:Act):Req:=
 let r:=zq6 a.client (a.seq % 6) a.kind a.session a.name
 let b1:=(zaF s.sess r.client).isSome&&decide (a.session % 8>0)&&(r.kind !=1)
 let b2:= !(zaF s.sess r.client).isSome&&decide (a.session % 4>0)
 ⟨r.client,if decide (a.seq % 5>0)=true then(if(zaM s.memos r.client).isSome=true then((zaM s.memos r.client).getD zcB).seq+1 else 1)else r.seq,
  if b2=true then 1 else r.kind,if b2=true then 0 else if b1=true then((zaF s.sess r.client).getD zee).num else r.session,if b2=true then .empty else r.name⟩
set_option maxHeartbeats 4000000 in
theorem zil (s:St) (h:Small s) (hr:RightS s) (a:Act) (ha:zha a):CallOK Tryz.prog 30 [.f (.agg s.lent), .f (.agg (a.enc.map C.d))] (fun r o=>r=[.agg ((zgN s a).enc.map RO.d)]∧o=[]):=by
 refine zac zar mixed (T:=Ty) (n:=76) Tryz.func30 (c:=Tryz.f30.body.getD .skip) rfl Tryz.results30 Tryz.ntmps30 Tryz.call30 ?_
 simp only[Tryz.f30,Option.getD]
 obtain⟨_,h1,h2,h3,h4,h5⟩:=ha
 have hrq:=ztc a.client (a.seq % 6) a.kind a.session a.name h1 (by unfold zbE;omega) h3 h4 h5
 generalize hN:zq6 a.client (a.seq % 6) a.kind a.session a.name=r at*
 have hla:=zi9 s.memos (by have:=h.memos;omega) r.client
 have hfi:=zea s.sess (by have:=h.sess;omega) r.client
 have ht6:=zci h2.1 6
 have ht5:=zci h2.1 5
 have ht8:=zci h4.1 8
 have ht4:=zci h4.1 4
 have hwm:IntKind.i64.wrap (((zaM s.memos r.client).getD zcB).seq+1)=((zaM s.memos r.client).getD zcB).seq+1:=by
  have hb:0≤((zaM s.memos r.client).getD zcB).seq∧((zaM s.memos r.client).getD zcB).seq≤zaL:=by
   cases hf:zaM s.memos r.client with
   |none=>decide
   |some m=>
    have:=(zcY (hr.mok m (List.mem_of_find?_eq_some hf))).2.1
    simp only[Option.getD_some];omega
  have hH:zaL=2305843009213693952:=rfl
  exact wrap64 (by omega) (by omega)
 have hR:zgN s a=⟨r.client,if decide (a.seq % 5>0)=true then(if(zaM s.memos r.client).isSome=true then((zaM s.memos r.client).getD zcB).seq+1 else 1)else r.seq,
  if(!(zaF s.sess r.client).isSome&&decide (a.session % 4>0))=true then 1 else r.kind,if(!(zaF s.sess r.client).isSome&&decide (a.session % 4>0))=true then 0 else if((zaF s.sess r.client).isSome&&decide (a.session % 8>0)&&(r.kind !=1))=true then((zaF s.sess r.client).getD zee).num else r.session,
  if(!(zaF s.sess r.client).isSome&&decide (a.session % 4>0))=true then .empty else r.name⟩:=by unfold zgN;rw[hN]
 generalize zgN s a=R at hR⊢
 repeat'(first|refine zq (I ht6 (I ht5 (I ht8 (I ht4 hwm)))) ?_|exact zd (I ht6 (I ht5 (I ht8 (I ht4 hwm))))|refine zc (hrq) ?_|refine zg (hrq) ?_|refine zc (hla) ?_|refine zg (hla) ?_|refine zc (hfi) ?_|refine zg (hfi) ?_|(refine zaa ?_ ?_<;>intro hb)|(refine And.intro ?_ ?_;exact zI)|(refine And.intro ?_ ?_<;>intro hg)|exact zC|fail)
 all_goals clear hrq hla hfi ht6 ht5 ht8 ht4 hwm hN h hr h1 h2 h3 h4 h5
 all_goals subst hR
 all_goals simp only[*,if_true,Bool.false_eq_true,if_false]
theorem zeb (v a:Int):CallOK Tryz.prog 99 [.f (ai v), .f (ai a)] (fun r o=>r=[rb (decide (v≥a)&&decide (v≤2305843009213693952))]∧o=[]):=by
 refine zac zar mixed (T:=Ty) (n:=12) Tryz.func99 (c:=Tryz.f99.body.getD .skip) rfl Tryz.results99 Tryz.ntmps99 Tryz.call99 ?_
 simp only[Tryz.f99,Option.getD]
 repeat'(first|refine zq0 ?_|exact zd0|(refine zaa ?_ ?_<;>intro hb)|(refine And.intro ?_ ?_;exact zI)|(refine And.intro ?_ ?_<;>intro hg)|exact zC|fail)
theorem zjW (s:ByteArray) (hs:s.size<2^62):CallOK Tryz.prog 132 [.f (ast s)] (fun r o=>r=[rb (nameP s)]∧o=[]):=by
 refine zac zar mixed (T:=Ty) (n:=41) Tryz.func132 (c:=Tryz.f132.body.getD .skip) rfl Tryz.results132 Tryz.ntmps132 Tryz.call132 ?_
 simp only[Tryz.f132,Option.getD]
 refine zw ?_
 refine zaa (fun hb=> ?_) (fun hb=> ?_)
 ·refine zw ?_
  have:nameP s=false:=by
   unfold nameP
   rw[Bool.and_eq_false_iff];right
   simp only[Bool.or_eq_true,decide_eq_true_eq]at hb
   simp only[Bool.and_eq_false_iff,decide_eq_false_iff_not]
   omega
  rw[this]
 have hsz:(decide ((s.size:Int)≥1)&&decide ((s.size:Int)≤12))=true:=by
  simp only[Bool.or_eq_false_iff,decide_eq_false_iff_not]at hb
  simp only[Bool.and_eq_true,decide_eq_true_eq]
  omega
 refine zw ?_
 refine zjO Ty Tryz.prog (τ:=Nat) (fun i=>⟨[ast s,dd,ab false,ai i,dd,dd,dd,dd,dd,dd,dd,dd,dd,dd,dd,dd,dd,dd,dd,dd,dd,dd,dd,dd,dd,dd,dd,dd,dd,dd,dd,dd,dd,dd,dd,dd,dd,dd,dd,dd,dd],[]⟩) (fun i=>i≤s.size∧∀j,j<i→zfU (s.data.getD j 0)=true) (fun i=>s.size - i) 0 ?_ ⟨Nat.zero_le _,fun j hj=>absurd hj (Nat.not_lt_zero j)⟩ ?_
 ·refine Gh.fgt ?_
  simp only[zaR,zaS,za5,Int.natCast_zero]
 intro i ⟨h1,h2⟩ K hK
 refine zw ?_
 refine zaa (fun hlt=> ?_) (fun hge=> ?_)
 ·have hi:i<s.size:=by simpa using hlt
  refine zw ?_
  refine⟨⟨Int.natCast_nonneg i,by omega⟩, ?_⟩
  refine⟨zqh ?_, ?_⟩
  ·simp_all;omega
  have hok:zfU (s.data.getD i 0)= !((decide (((s.data.getD i 0).toNat:Int)<97)||decide (((s.data.getD i 0).toNat:Int)>122))&&(decide (((s.data.getD i 0).toNat:Int)<48)||decide (((s.data.getD i 0).toNat:Int)>57))&&(((s.data.getD i 0).toNat:Int) !=45)):=rfl
  generalize ((s.data.getD i 0).toNat:Int)=c at hok⊢
  refine zaa (fun hb2=> ?_) (fun hb2=> ?_)
  ·refine zw ?_
   have hn:nameP s=false:=by
    unfold nameP
    rw[show((List.range s.size).all fun j=>zfU (s.data.getD j 0))=false from List.all_eq_false.2 ⟨i,List.mem_range.2 hi,by rw[hok];revert hb2;simp;omega⟩,Bool.false_and]
   rw[hn]
  ·refine zw ?_
   refine hK _ (i+1) (Gh.fgt ?_) ⟨hi,fun j hj=> ?_⟩ (by omega)
   ·simp only[zan hi (by omega),zaR,zaS,za5]
   ·rcases Nat.lt_or_ge j i with h|h
    ·exact h2 j h
    ·rw[show j=i from by omega,hok];revert hb2;simp;omega
 ·refine zw ?_
  have hi:i=s.size:=by
   have:¬(i:Int)<s.size:=by simpa using hge
   omega
  have hn:nameP s=true:=by
   unfold nameP
   rw[show((List.range s.size).all fun j=>zfU (s.data.getD j 0))=true from List.all_eq_true.2 fun j hj=>h2 j (by rw[hi];exact List.mem_range.1 hj),Bool.true_and,hsz]
  rw[hn]
theorem zqn (k n:Int) (s:ByteArray) (hs:s.size<2^62):CallOK Tryz.prog 100 [.f (.agg [di k,di n,dS s])] (fun r o=>r=[rb (zlu k n s)]∧o=[]):=by
 refine zac zar mixed (T:=Ty) (n:=38) Tryz.func100 (c:=Tryz.f100.body.getD .skip) rfl Tryz.results100 Tryz.ntmps100 Tryz.call100 ?_
 simp only[Tryz.f100,Option.getD]
 repeat'(first|with_reducible refine zab _ _ ?_|rw[zaj]|simp only[zB,Nat.reduceSub,Nat.reduceEqDiff,Nat.reduceAdd,Nat.reduceMul,Nat.reduceLeDiff,Nat.reduceLT,Nat.reduceBEq,reduceCtorEq]|((first|((try refine zax ?_);apply zaA)|(apply zaB;intro _));(solve|exact(zjW _ hs)|exact(zeb _ _)|(refine CallOK.le (zjW _ hs) ?_;exact zM)|(refine CallOK.le (zeb _ _) ?_;exact zM)|fail);try case hn=>rfl)|refine zal ?_|refine zaa (fun hb=> ?_) (fun hb=> ?_)|(refine And.intro ?_ ?_;exact zI)|refine And.intro (fun hg=> ?_) (fun hg=> ?_)|exact zC|fail)
 all_goals refine congrArg (fun b=>[rb b]) ?_
 all_goals simp only[beq_iff_eq,beq_eq_false_iff_ne,ne_eq]at*
 all_goals first
  |(exfalso;omega)
  |(subst_vars;unfold zlu;generalize (s.toList==(⟨#[]⟩:ByteArray).toList)=q;generalize nameP s=p;cases q<;>cases p<;>simp;done)
  |(have e:(decide (k<1)||decide (k>6))=true:=(by simp;omega);unfold zlu;rw[if_pos e])
theorem zgq (r:Req) (hr:r.ok):CallOK Tryz.prog 63 [.f (.agg (r.enc.map C.d))] (fun x o=>x=[rb (Req.may r)]∧o=[]):=by
 refine zac zar mixed (T:=Ty) (n:=21) Tryz.func63 (c:=Tryz.f63.body.getD .skip) rfl Tryz.results63 Tryz.ntmps63 Tryz.call63 ?_
 simp only[Tryz.f63,Option.getD]
 repeat'(first|with_reducible refine zab _ _ ?_|rw[zaj]|simp only[zB,Nat.reduceSub,Nat.reduceEqDiff,Nat.reduceAdd,Nat.reduceMul,Nat.reduceLeDiff,Nat.reduceLT,Nat.reduceBEq,reduceCtorEq]|((first|((try refine zax ?_);apply zaA)|(apply zaB;intro _));(solve|exact(zqn _ _ _ hr.2.2.2.2)|exact(zeb _ _)|(refine CallOK.le (zqn _ _ _ hr.2.2.2.2) ?_;exact zM)|(refine CallOK.le (zeb _ _) ?_;exact zM)|fail);try case hn=>rfl)|refine zal ?_|refine zaa (fun hb=> ?_) (fun hb=> ?_)|(refine And.intro ?_ ?_;exact zI)|refine And.intro (fun hg=> ?_) (fun hg=> ?_)|exact zC|fail)
 simp[Req.may,Bool.and_assoc]
theorem zvc:∀(a b:List UInt8),(Go.Op.bytesLess a b||a==b)= !(Go.Op.bytesLess b a)
 |[],[]=>rfl
 |[],y::ys=>rfl
 |x::xs,[]=>rfl
 |x::xs,y::ys=>by
  have ih:=zvc xs ys
  rw[Go.Op.bytesLess,Go.Op.bytesLess]
  rw[show((x::xs:List UInt8)==y::ys)=(x==y&&xs==ys) from rfl]
  have htri:x<y∨x=y∨y<x:=by
   rcases Nat.lt_trichotomy x.toNat y.toNat with h|h|h
   ·exact .inl (UInt8.lt_iff_toNat_lt.2 h)
   ·exact .inr (.inl (UInt8.toNat_inj.1 h))
   ·exact .inr (.inr (UInt8.lt_iff_toNat_lt.2 h))
  rcases htri with h|h|h
  ·have h2:¬y<x:=UInt8.lt_asymm h
   have h3:(y==x)=false:=by simp;intro e;subst e;exact absurd h (UInt8.lt_irrefl _)
   simp[h,h2,h3]
  ·subst h
   have h2:¬x<x:=UInt8.lt_irrefl _
   simp only[h2,decide_false,Bool.false_or,beq_self_eq_true,Bool.true_and]
   exact ih
  ·have h2:¬x<y:=UInt8.lt_asymm h
   have h3:(x==y)=false:=by simp;intro e;subst e;exact absurd h (UInt8.lt_irrefl _)
   simp[h,h2,h3]
def zr7 (r:Reply):Bool:=decide (r.code<0)||decide (r.code>12)|| !(decide (r.session≥0)&&decide (r.session≤2305843009213693952))||decide (r.ahead<0)||decide (r.ahead>3)||decide ((r.held.length:Int)>4)||r.session==0&&decide ((r.held.length:Int)>0)
theorem zhV (r:Reply):zcS r=(!(zr7 r)&&zbK (zcD r.held) 0 r.held):=by
 have h1:(decide (r.session≥0)&&decide (r.session≤2305843009213693952))= !(decide (r.session<0)||decide (r.session>zaL)):=by
  have hH:zaL=2305843009213693952:=rfl
  rw[Bool.eq_iff_iff];simp[hH]
 unfold zcS zr7
 rw[h1]
 generalize decide (r.code<0)=a1
 generalize decide (r.code>12)=a2
 generalize decide (r.session<0)=a3
 generalize decide (r.session>zaL)=a4
 generalize decide (r.ahead<0)=a5
 generalize decide (r.ahead>3)=a6
 generalize decide ((r.held.length:Int)>4)=a7
 generalize (r.session==0)=a8
 generalize decide ((r.held.length:Int)>0)=a9
 generalize zbK (zcD r.held) 0 r.held=a0
 cases a1<;>cases a2<;>cases a3<;>cases a4<;>cases a5<;>cases a6<;>first|rfl|(cases a7<;>cases a8<;>cases a9<;>rfl)
set_option maxHeartbeats 2000000 in
theorem zgC (r:Reply) (hr:zcA r):CallOK Tryz.prog 143 [.f (.agg r.lent)] (fun x o=>x=[rb (zcS r)]∧o=[]):=by
 refine zac zar mixed (T:=Ty) (n:=84) Tryz.func143 (c:=Tryz.f143.body.getD .skip) rfl Tryz.results143 Tryz.ntmps143 Tryz.call143 ?_
 simp only[Tryz.f143,Option.getD]
 obtain⟨h1,h2⟩:=hr
 have hh:=zeb r.session 0
 repeat'(first|refine zq0 ?_|exact zd0|refine zc (hh) ?_|refine zg (hh) ?_|(refine zaa ?_ ?_<;>intro hb)|(refine And.intro ?_ ?_;exact zI)|(refine And.intro ?_ ?_<;>intro hg)|exact zC|fail)
 ·rw[zhV,show zr7 r=true from hb];rfl
 ·have hs:zcS r=zbK (zcD r.held) 0 r.held:=by rw[zhV,show zr7 r=false from hb];rfl
  rw[hs]
  clear hb
  refine zao (τ:=Nat) (fun i=>⟨[dd, .one (.ptr ⟨1,0,1⟩ 0),dd,ai i,dd,dd,dd,dd,dd,dd,dd,dd,dd,dd,dd,dd,dd,dd,dd,dd,dd,dd,dd,dd,dd,dd,dd,dd,dd,dd,dd,dd,dd,dd,dd,dd,dd,dd,dd,dd,dd,dd,dd,dd,dd,dd,dd,dd,dd,dd,dd,dd,dd,dd,dd,dd,dd,dd,dd,dd,dd,dd,dd,dd,dd,dd,dd,dd,dd,dd,dd,dd,dd,dd,dd,dd,dd,dd,dd,dd,dd,dd,dd,dd],[(1,{next:=2,l:=[some {e:=1,var:=true,fz:=false,sz:=0,cells:=[di r.code,di r.session,di r.ahead, .lent r.held.length (zaH r.held)]},none,none,none,none]}),(4,⟨2,[]⟩)]⟩)
   (fun i=>i≤r.held.length) (fun i=>zbK (zcD r.held) i (r.held.drop i)) (fun i=>r.held.length - i) 0
   (Gh.canon [1] [4] [] zK rfl rfl) (Nat.zero_le _) ?_
  intro i hi0 hF K hK
  rw[List.drop_zero]at hF
  refine zw ?_
  refine zaa (fun hlt=> ?_) (fun hge=> ?_)
  ·have hi:i<r.held.length:=by simpa using hlt
   have hat:=zcT hi
   have hw:=zan hi (by omega)
   rw[za0 hi]at hF
   have hnm:=zjW r.held[i].name (h2 _ (List.getElem_mem hi))
   have hhg:=zeb r.held[i].token 1
   have hH:(decide (r.held[i].token≥1)&&decide (r.held[i].token≤2305843009213693952))= !(decide (r.held[i].token<1)||decide (r.held[i].token>zaL)):=by
    have hH:zaL=2305843009213693952:=rfl
    rw[Bool.eq_iff_iff];simp[hH]
   cases e0:decide ((i:Int)>0)
   ·have h0:i=0:=by simpa using e0
    have hq:zcD r.held i r.held[i]= !(!nameP r.held[i].name|| !(decide (r.held[i].token≥1)&&decide (r.held[i].token≤2305843009213693952))):=by
     unfold zcD
     have:decide (i>0)=false:=by simpa using e0
     rw[this,Bool.false_and,Bool.or_false,hH,Bool.not_not,Bool.or_assoc]
    have hp:(zaH r.held).drop ((IntKind.i64.wrap ((i:Int) - 1)).toNat*2)=r.held[i].enc++zaH (r.held.drop (i+1)):=by
     rw[←zcT hi,h0];rfl
    repeat'(first|refine zq (I hat (I hp (I e0 (I @za8 zca)))) ?_|exact zd (I hat (I hp (I e0 (I @za8 zca))))|refine zc (hnm) ?_|refine zg (hnm) ?_|refine zc (hhg) ?_|refine zg (hhg) ?_|(refine zaa ?_ ?_<;>intro hb)|(refine And.intro ?_ ?_;exact zI)|(refine And.intro ?_ ?_<;>intro hg)|exact zC|fail)
    ·rw[hq,hb,if_neg (by simp)]at hF
     rw[←hF]
    ·exact hK _ (i+1) (Gh.canon [1] [] [] (zk hw) rfl rfl) hi (by rw[za0 hi,hq,hb];rfl) (by omega)
   ·have h0:0<i:=by simpa using e0
    have hq:zcD r.held i r.held[i]= !(!nameP r.held[i].name|| !(decide (r.held[i].token≥1)&&decide (r.held[i].token≤2305843009213693952))||(Go.Op.bytesLess r.held[i].name.toList (r.held[i - 1]'(by omega)).name.toList||r.held[i].name.toList==(r.held[i - 1]'(by omega)).name.toList)):=by
     rw[zvc]
     unfold zcD zra
     have:decide (i>0)=true:=by simpa using e0
     rw[this,List.getElem?_eq_getElem (by omega),hH,Bool.not_not]
     simp only[Bool.true_and,Option.map_some,Option.getD_some,Bool.or_assoc]
    have hp:=zcT (show i - 1<r.held.length by omega)
    have hw1:IntKind.i64.wrap ((i:Int) - 1)=((i - 1:Nat):Int):=by rw[wrap64 (by omega) (by omega)];omega
    repeat'(first|refine zq (I hat (I hp (I hw1 (I e0 (I @za8 zca))))) ?_|exact zd (I hat (I hp (I hw1 (I e0 (I @za8 zca)))))|refine zc (hnm) ?_|refine zg (hnm) ?_|refine zc (hhg) ?_|refine zg (hhg) ?_|(refine zaa ?_ ?_<;>intro hb)|(refine And.intro ?_ ?_;exact zI)|(refine And.intro ?_ ?_<;>intro hg)|exact zC|fail)
    ·rw[hq,hb,if_neg (by simp)]at hF
     rw[←hF]
    ·exact hK _ (i+1) (Gh.canon [1] [] [] (zk hw) rfl rfl) hi (by rw[za0 hi,hq,hb];rfl) (by omega)
  ·have hi:i=r.held.length:=by
    have:¬(i:Int)<r.held.length:=by simpa using hge
    omega
   rw[zc0 hi]at hF
   rw[←hF]
   repeat'(first|refine zq0 ?_|exact zd0|(refine zaa ?_ ?_<;>intro hb)|(refine And.intro ?_ ?_;exact zI)|(refine And.intro ?_ ?_<;>intro hg)|exact zC|fail)
theorem zjX (m:Memo) (hr:zcA m.reply):CallOK Tryz.prog 106 [.f (.agg m.lent)] (fun x o=>x=[rb (answerB m)]∧o=[]):=by
 refine zac zar mixed (T:=Ty) (n:=21) Tryz.func106 (c:=Tryz.f106.body.getD .skip) rfl Tryz.results106 Tryz.ntmps106 Tryz.call106 ?_
 simp only[Tryz.f106,Option.getD]
 have hh:=zeb m.seq 1
 repeat'(first|refine zq0 ?_|exact zd0|refine zc (hh) ?_|refine zg (hh) ?_|refine zc (zgC m.reply hr) ?_|refine zg (zgC m.reply hr) ?_|(refine zaa ?_ ?_<;>intro hb)|(refine And.intro ?_ ?_;exact zI)|(refine And.intro ?_ ?_<;>intro hg)|exact zC|fail)
 simp[answerB,Bool.and_assoc]
end Go.Proofs.YtngleemijkaeoaaGreat
