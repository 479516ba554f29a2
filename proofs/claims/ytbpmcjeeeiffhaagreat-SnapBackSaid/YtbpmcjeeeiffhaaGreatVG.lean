import Derived.Test.YtbpmcjeeeiffhaaGreatS
namespace Go.Proofs.YtbpmcjeeeiffhaaGreat
open Go.Pk
set_option maxRecDepth 100000
set_option linter.unusedSimpArgs false
set_option linter.unusedVariables false
theorem zmK {l:List Int} (h:lineB l=true):l.Nodup:=(zbF.1 h).2.2
theorem zsW {l:List Sess}:zqF l []=l:=List.filter_eq_self.2 fun _ _=>rfl
abbrev zlG (l:List Sess) (gone:List Int) (i:Nat):List Sess:=zqF l (gone.take i)
theorem zlH {l:List Sess} {gone:List Int} {i:Nat} (hi:i<gone.length):zlG l gone (i+1)=(zlG l gone i).filter fun x=>x.client !=gone[i]:=by
 unfold zlG zqF
 rw[List.filter_filter]
 congr 1
 funext x
 rw[←List.take_append_getElem hi]
 unfold hasI
 rw[List.any_append]
 simp only[List.any_cons,List.any_nil,Bool.or_false,Bool.not_or,bne]
 rw[Bool.and_comm]
theorem zq9 {l:List Sess} {gone:List Int} {i:Nat} (hi:i<gone.length) (hf:zaA (zlG l gone i) gone[i]=none):zlG l gone (i+1)=zlG l gone i:=by
 rw[zlH hi]
 refine List.filter_eq_self.2 fun x hx=> ?_
 have:=List.find?_eq_none.1 hf x hx
 simpa[bne]using this
set_option maxHeartbeats 2000000 in
theorem zlI (s:St) (h:Small s) (hs:SL s.locks) (hnd:∀k∈s.locks,k.line.Nodup) (ht:0≤s.token∧s.token≤zbB) (gone:List Int) (hg:gone.length<2^30):
  CallOK Tryz.prog 96 [.f (zu4 s), .f (al gone.length (zaE gone))] (fun r o=>r=[zu5 (zbv s gone)]∧o=[]):=by
 refine CallOK.nil ?_
 refine zac zas mixed (T:=Ty) (n:=47) Tryz.func96 (c:=Tryz.f96.body.getD .skip) rfl Tryz.results96 Tryz.ntmps96 Tryz.call96 ?_
 simp only[Tryz.f96,Option.getD]
 have hH:zbB=2^61:=by decide
 have hdp:=zsZ s.locks hs h.locks (fun k hk=>⟨(h.line k hk).1,hnd k hk⟩) gone hg s.token (by omega)
 obtain⟨⟨g1,g2⟩,_⟩:=zd7 gone s.token (s.locks.map (zao gone)) 0 (Int.le_refl _)
 have g1:0≤(zdO s.locks gone s.token).2:=g1
 have g2:(zdO s.locks gone s.token).2≤0+(s.locks.map (zao gone)).length:=g2
 rw[List.length_map]at g2
 have hw:IntKind.i64.wrap (s.token+(zdO s.locks gone s.token).2)=s.token+(zdO s.locks gone s.token).2:=wrap64 (by omega) (by have:=h.locks;omega)
 obtain⟨LD,hD⟩:∃D,D=(zdO s.locks gone s.token).1:=⟨_,rfl⟩
 obtain⟨g,hg0⟩:∃g,g=(zdO s.locks gone s.token).2:=⟨_,rfl⟩
 have hwi:zbv s gone=⟨s.time,s.num,s.token+g,zqF s.sess gone,LD,s.memos⟩:=by rw[hD,hg0];rfl
 rw[hwi]
 rw[←hD,←hg0]at hdp
 rw[←hg0]at hw
 repeat'(first|(with_reducible first|refine za6 4 ?_|refine zaL 4 ?_|refine zaM 4 ?_)|refine zu hw ?_|exact zd hw|(with_reducible first|refine zad _ _ ?_)|refine zc (hdp) ?_|refine zg (hdp) ?_|(refine zaa ?_ ?_<;>intro hb)|(refine And.intro ?_ ?_;exact zI)|(refine And.intro ?_ ?_<;>intro hg)|exact zC|fail)
 refine za2 (za1 (Gh.sealF 2 4 (.own ⟨2,5,7⟩ 0 LD.length) ?_) ?_)
 ·exact zo0
 refine zf0 ?_
 refine za1 (Gh.dropRow 2 5 rfl) ?_
 simp only[zY,Nat.reduceSub,Nat.reduceEqDiff,Nat.reduceAdd,Nat.reduceMul,Nat.reduceLeDiff,Nat.reduceLT,Nat.reduceBEq,reduceCtorEq]
 repeat'(first|refine zq0 ?_|exact zd0|(refine zaa ?_ ?_<;>intro hb)|(refine And.intro ?_ ?_;exact zI)|(refine And.intro ?_ ?_<;>intro hg)|exact zC|fail)
 rw[show(D.sl s.sess.length (zaJ s.sess))=D.sl (zlG s.sess gone 0).length (zaJ (zlG s.sess gone 0)) from by rw[show zlG s.sess gone 0=s.sess from zsW]]
 refine zam (τ:=Nat) (fun i=>⟨[dd,al gone.length (zaE gone), .one (.ptr ⟨2,0,1⟩ 0),dd, .one (.ptr ⟨4,0,1⟩ 0),dd,dd,ai i,dd,dd,dd,dd,dd,dd,dd,dd,dd,dd,dd,dd,dd,dd,dd,dd,dd,dd,dd,dd,dd,dd,dd,dd,dd,dd,dd,dd,dd,dd,dd,dd,dd,dd,dd,dd,dd,dd,dd],[(2,{next:=2,l:=[some {e:=1,var:=true,fz:=false,sz:=0,cells:=[di s.time,di s.num,di (s.token+g), .d (.sl (zlG s.sess gone i).length (zaJ (zlG s.sess gone i))), .d (.sl LD.length (zai LD)), .d (.sl s.memos.length (zaC s.memos))]},none,none,none,none,none,none]}),(4,{next:=2,l:=[some {e:=1,var:=true,fz:=false,sz:=0,cells:=[di 0,di 0,di 0, .d (.v (.slice none 0 0)), .d (.v (.slice none 0 0)), .d (.v (.slice none 0 0))]},none,none,none,none,none,none]}),(16,⟨2,[]⟩),(5,⟨2,[]⟩),(8,⟨2,[]⟩),(39,⟨2,[]⟩)]⟩)
  (fun i=>i≤gone.length) (fun _=>()) (fun i=>gone.length - i) 0
  (Gh.canon [2,4] [8,39] [] zK rfl rfl) (Nat.zero_le _) ?_
 intro i hi0 hF K hK
 refine zw ?_
 refine zaa (fun hlt=> ?_) (fun hge=> ?_)
 ·have hi:i<gone.length:=by simpa using hlt
  have hat:=zcp hi
  have hwi:=zaq hi (by omega)
  have hcl:(zlG s.sess gone i).length<2^30:=Nat.lt_of_le_of_lt (List.length_filter_le ..) h.sess
  have hrc:=zrd (zlG s.sess gone i) hcl gone[i]
  cases hf:zaA (zlG s.sess gone i) gone[i]with
  |none=>
   rw[hf]at hrc
   simp only[Option.isSome_none,Bool.false_eq_true,if_false]at hrc
   have hz:((6:Int)==0)=false:=rfl
   repeat'(first|refine zq (I hat (I hz (I @zak zca))) ?_|exact zd (I hat (I hz (I @zak zca)))|refine zc (hrc) ?_|refine zg (hrc) ?_|(refine zaa ?_ ?_<;>intro hb)|(refine And.intro ?_ ?_;exact zI)|(refine And.intro ?_ ?_<;>intro hg)|exact zC|fail)
   rw[←zq9 hi hf]
   exact hK _ (i+1) (Gh.canon [2,4] [] [] (zk hwi) rfl rfl) hi rfl (by omega)
  |some x=>
   rw[hf]at hrc
   simp only[Option.isSome_some,if_true]at hrc
   rw[←zlH hi]at hrc
   have hz:((0:Int)==0)=true:=rfl
   repeat'(first|(with_reducible first|refine za6 6 ?_|refine zaL 6 ?_|refine zaM 6 ?_)|refine zu (I hat (I hz (I @zak zca))) ?_|exact zd (I hat (I hz (I @zak zca)))|(with_reducible first|refine zad _ _ ?_)|refine zc (hrc) ?_|refine zg (hrc) ?_|(refine zaa ?_ ?_<;>intro hb)|(refine And.intro ?_ ?_;exact zI)|(refine And.intro ?_ ?_<;>intro hg)|exact zC|fail)
   refine za2 (za1 (Gh.sealF 2 3 (.own ⟨2,4,2⟩ 0 (zlG s.sess gone (i+1)).length) ?_) ?_)
   ·exact zo0
   refine zf0 ?_
   refine za1 (Gh.dropRow 2 4 rfl) ?_
   simp only[zY,Nat.reduceSub,Nat.reduceEqDiff,Nat.reduceAdd,Nat.reduceMul,Nat.reduceLeDiff,Nat.reduceLT,Nat.reduceBEq,reduceCtorEq]
   repeat'(first|refine zq0 ?_|exact zd0|(refine zaa ?_ ?_<;>intro hb)|(refine And.intro ?_ ?_;exact zI)|(refine And.intro ?_ ?_<;>intro hg)|exact zC|fail)
   exact hK _ (i+1) (Gh.canon [2,4] [] [] (zk hwi) rfl rfl) hi rfl (by omega)
 ·have hi:i=gone.length:=by
   have:¬(i:Int)<gone.length:=by simpa using hge
   omega
  subst hi
  have he:zlG s.sess gone gone.length=zqF s.sess gone:=by unfold zlG;rw[List.take_length]
  rw[he]
  repeat'(first|refine zq0 ?_|exact zd0|(refine zaa ?_ ?_<;>intro hb)|(refine And.intro ?_ ?_;exact zI)|(refine And.intro ?_ ?_<;>intro hg)|exact zC|fail)
  simp[zbO,zfo,zbH,zaz]
theorem zfO {s:St} (hr:RightS s):∀k∈s.locks,k.line.Nodup:=fun k hk=>zmK (hr.lok k hk).2.2.1
set_option maxHeartbeats 2000000 in
theorem zmJ (s:St) (h:Small s) (hr:RightS s) (time lease:Int):CallOK Tryz.prog 55 [.f (zu4 s), .f (ai time), .f (ai lease)]
  (fun r o=>r=[zu5 (zci s time lease)]∧o=[]):=by
 refine zac zas mixed (T:=Ty) (n:=26) Tryz.func55 (c:=Tryz.f55.body.getD .skip) rfl Tryz.results55 Tryz.ntmps55 Tryz.call55 ?_
 simp only[Tryz.f55,Option.getD]
 have h':Small {s with time:=zd8 s time}:=⟨h.sess,h.locks,h.memos,h.line,h.held⟩
 have htm:0≤zd8 s time∧zd8 s time≤zbB:=by
  have:=hr.time
  unfold zd8
  split
  ·rename_i hc
   simp only[Bool.and_eq_true,decide_eq_true_eq]at hc
   omega
  ·exact this
 have hdu:=zvd s.sess h.sess (zd8 s time) (max lease 1) (fun x hx=>(zb7.1 (hr.sok x hx).1).2.2) htm
 have hwo:=zlI {s with time:=zd8 s time} h' hr.ls (fun k hk=>zfO hr k hk) hr.token (zqN s.sess (zd8 s time) (max lease 1)) (zqG h _ _)
 have hav:zci s time lease=zbv {s with time:=zd8 s time} (zqN s.sess (zd8 s time) (max lease 1)):=rfl
 rw[hav]
 cases ha:decide (time>s.time)&&decide (time≤2305843009213693952)
 ·have htp:zd8 s time=s.time:=by unfold zd8;rw[show(decide (time>s.time)&&decide (time≤zbB))=false from ha];rfl
  rw[htp]at hdu hwo⊢
  repeat'(first|(with_reducible first|refine zad _ _ ?_|refine zaS ?_|refine zaT ?_)|rw[zaI]|simp only[ha,zsM,zY,Int.reduceEq,Int.reduceBEq,Int.reduceBNe,Nat.reduceSub,Nat.reduceEqDiff,Nat.reduceAdd,Nat.reduceMul,Nat.reduceLeDiff,Nat.reduceLT,Nat.reduceBEq,reduceCtorEq]|((first|((try refine zaV ?_);apply za9)|(apply zbc;intro _));(solve|exact(hdu)|exact(hwo)|(refine CallOK.le (hdu) ?_;exact zM)|(refine CallOK.le (hwo) ?_;exact zM)|fail);try case hn=>rfl)|refine zax ?_|refine zaa (fun hb=> ?_) (fun hb=> ?_)|(refine And.intro ?_ ?_;exact zI)|refine And.intro (fun hg=> ?_) (fun hg=> ?_)|exact zC|fail)
  rfl
 ·have htp:zd8 s time=time:=by unfold zd8;rw[show(decide (time>s.time)&&decide (time≤zbB))=true from ha];rfl
  rw[htp]at hdu hwo⊢
  repeat'(first|(with_reducible first|refine zad _ _ ?_|refine zaS ?_|refine zaT ?_)|rw[zaI]|simp only[ha,zsM,zY,Int.reduceEq,Int.reduceBEq,Int.reduceBNe,Nat.reduceSub,Nat.reduceEqDiff,Nat.reduceAdd,Nat.reduceMul,Nat.reduceLeDiff,Nat.reduceLT,Nat.reduceBEq,reduceCtorEq]|((first|((try refine zaV ?_);apply za9)|(apply zbc;intro _));(solve|exact(hdu)|exact(hwo)|(refine CallOK.le (hdu) ?_;exact zM)|(refine CallOK.le (hwo) ?_;exact zM)|fail);try case hn=>rfl)|refine zax ?_|refine zaa (fun hb=> ?_) (fun hb=> ?_)|(refine And.intro ?_ ?_;exact zI)|refine And.intro (fun hg=> ?_) (fun hg=> ?_)|exact zC|fail)
  rfl
theorem zkm (s:St) (h:Small s) (c code ahead:Int):CallOK Tryz.prog 150 [.f (zu4 s), .f (ai c), .f (ai code), .f (ai ahead)]
  (fun r o=>r=[zj5 ⟨code,((zaA s.sess c).getD zeq).num,ahead,zbW s.locks c⟩]∧o=[]):=by
 refine zac zas mixed (T:=Ty) (n:=27) Tryz.func150 (c:=Tryz.f150.body.getD .skip) rfl Tryz.results150 Tryz.ntmps150 Tryz.call150 ?_
 simp only[Tryz.f150,Option.getD]
 have hfi:=zeh s.sess (by have:=h.sess;omega) c
 have hhe:=zsY s.locks h.locks c
 repeat'(first|refine zq0 ?_|exact zd0|refine zc (hfi) ?_|refine zg (hfi) ?_|refine zc (hhe) ?_|refine zg (hhe) ?_|(refine zaa ?_ ?_<;>intro hb)|(refine And.intro ?_ ?_;exact zI)|(refine And.intro ?_ ?_<;>intro hg)|exact zC|fail)
 rfl
theorem zjb {s:St} (hr:RightS s) {c:Int} (hc:isClient c=true) (hf:zaA s.sess c=none) (he:((zde s.sess c (s.num+1) s.time).2 !=0)=false):
  (zde s.sess c (s.num+1) s.time).1.length≤s.sess.length+1∧((zaA (zde s.sess c (s.num+1) s.time).1 c).getD zeq).num=s.num+1:=by
 by_cases hN:s.num+1≤zbB
 ·rw[znK hr hc hN hf]at he⊢
  split at he
  ·cases he
  ·rename_i h5
   rw[if_neg h5]
   refine⟨?_, ?_⟩
   ·simp only[List.length_append,List.length_cons,List.length_take,List.length_drop];omega
   ·have h1:(s.sess.take (zfL s.sess c)).find? (fun x=>x.client==c)=none:=List.find?_eq_none.2 fun x hx=>List.find?_eq_none.1 hf x (List.mem_of_mem_take hx)
    simp only[zaA,List.find?_append,h1,Option.none_or,List.find?_cons,beq_self_eq_true,Option.getD_some]
 ·exfalso
  have:zde s.sess c (s.num+1) s.time=([],1):=by
   unfold zde
   rw[if_pos (by simp only[Bool.or_eq_true,decide_eq_true_eq];omega)]
  rw[this]at he
  cases he
set_option maxHeartbeats 2000000 in
theorem zq8 (s:St) (h:Small s) (hr:RightS s) (c:Int) (hc:isClient c=true):CallOK Tryz.prog 147 [.f (zu4 s), .f (ai c)]
  (fun r o=>r=[zu5 (zcv s c).1,zj5 (zcv s c).2]∧o=[]):=by
 refine CallOK.nil ?_
 refine zac zas mixed (T:=Ty) (n:=49) Tryz.func147 (c:=Tryz.f147.body.getD .skip) rfl Tryz.results147 Tryz.ntmps147 Tryz.call147 ?_
 simp only[Tryz.f147,Option.getD]
 have hfi:=zeh s.sess (by have:=h.sess;omega) c
 have hn:=hr.num
 have hH:zbB=2^61:=by decide
 have hw:IntKind.i64.wrap (s.num+1)=s.num+1:=wrap64 (by omega) (by omega)
 cases hf:zaA s.sess c with
 |some x=>
  have hto:=zkm s h c 7 0
  rw[hf]at hfi hto
  simp only[Option.isSome_some,Option.getD_some]at hfi hto
  have ho:zcv s c=(s,⟨7,x.num,0,zbW s.locks c⟩):=by unfold zcv;rw[hf]
  rw[ho]
  repeat'(first|refine zq0 ?_|exact zd0|refine zc (hfi) ?_|refine zg (hfi) ?_|refine zc (hto) ?_|refine zg (hto) ?_|(refine zaa ?_ ?_<;>intro hb)|(refine And.intro ?_ ?_;exact zI)|(refine And.intro ?_ ?_<;>intro hg)|exact zC|fail)
  simp[zbO,zfo,zbH,zaz]
 |none=>
  rw[hf]at hfi
  simp only[Option.isSome_none,Option.getD_none]at hfi
  have hop:=zsX s.sess hr.ss h.sess c (s.num+1) s.time hc (by omega) hr.time hf (zgh hr)
  have ho:zcv s c=if((zde s.sess c (s.num+1) s.time).2 !=0)=true then(s,⟨(zde s.sess c (s.num+1) s.time).2,0,0,[]⟩)else
    ({s with sess:=(zde s.sess c (s.num+1) s.time).1,num:=s.num+1},⟨0,s.num+1,0,zbW s.locks c⟩):=by unfold zcv;rw[hf];simp only[bne_iff_ne]
  cases he:(zde s.sess c (s.num+1) s.time).2 !=0
  ·rw[he,if_neg (by simp)]at ho
   rw[ho]
   have hsm:Small {s with sess:=(zde s.sess c (s.num+1) s.time).1,num:=s.num+1}:=⟨by have:=(zjb hr hc hf he).1;have:=hr.sl;simp only;omega,h.locks,h.memos,h.line,h.held⟩
   have hto:=zkm {s with sess:=(zde s.sess c (s.num+1) s.time).1,num:=s.num+1} hsm c 0 0
   have hfo:((zaA (zde s.sess c (s.num+1) s.time).1 c).getD zeq).num=s.num+1:=(zjb hr hc hf he).2
   simp only[hfo]at hto
   repeat'(first|(with_reducible first|refine za6 8 ?_|refine zaL 8 ?_|refine zaM 8 ?_)|refine zu (I hw he) ?_|exact zd (I hw he)|(with_reducible first|refine zad _ _ ?_)|refine zc (hfi) ?_|refine zg (hfi) ?_|refine zc (hop) ?_|refine zg (hop) ?_|(refine zaa ?_ ?_<;>intro hb)|(refine And.intro ?_ ?_;exact zI)|(refine And.intro ?_ ?_<;>intro hg)|exact zC|fail)
   refine za2 (za1 (Gh.sealF 2 3 (.own ⟨2,4,7⟩ 0 (zde s.sess c (s.num+1) s.time).1.length) ?_) ?_)
   ·exact zo0
   refine zf0 ?_
   repeat'(first|refine zq hw ?_|exact zd hw|refine zc (hto) ?_|refine zg (hto) ?_|(refine zaa ?_ ?_<;>intro hb)|(refine And.intro ?_ ?_;exact zI)|(refine And.intro ?_ ?_<;>intro hg)|exact zC|fail)
   simp[zbO,zfo,zbH,zaz]
  ·rw[he,if_pos rfl]at ho
   rw[ho]
   repeat'(first|refine zq (I hw he) ?_|exact zd (I hw he)|refine zc (hfi) ?_|refine zg (hfi) ?_|refine zc (hop) ?_|refine zg (hop) ?_|(refine zaa ?_ ?_<;>intro hb)|(refine And.intro ?_ ?_;exact zI)|(refine And.intro ?_ ?_<;>intro hg)|exact zC|fail)
   simp[zbO,zfo,zbH,zaz]
theorem zoO {s:St} (hr:RightS s) {c:Int} {x:Sess} (hf:zaA s.sess c=some x):((zaA (zco s.sess c s.time).1 c).getD zeq).num=x.num∧(zco s.sess c s.time).1.length=s.sess.length:=by
 rw[zgi hr hf]
 refine⟨?_,by simp only[List.length_set]⟩
 simp only
 rw[←zlJ hr.ss hf]
 unfold zaA
 rw[List.find?_map,show((fun y:Sess=>y.client==c)∘zc2 c s.time)=fun y:Sess=>y.client==c from by funext y;simp only[Function.comp,zc2];split<;>rfl]
 rw[show s.sess.find? (fun y:Sess=>y.client==c)=some x from hf]
 simp only[Option.map_some,Option.getD_some,zc2]
 split<;>rfl
theorem zoP {l:List Lk} {name:ByteArray} {c t:Int} {w:Bool} (hl:∀k∈l,k.line.length<2^30∧k.name.size<2^62) (hs:SL l) (hll:∀k∈l,k.line.length≤3) (hn:name.size<2^62):
  ∀k∈(zaR l name c t w).1,k.line.length<2^30∧k.name.size<2^62:=by
 intro k hk
 unfold zaR at hk
 cases hf:zc5 l name with
 |none=>
  rw[hf]at hk
  simp only at hk
  split at hk
  ·cases hk
  ·rcases List.mem_append.1 hk with hk|hk
   ·exact hl k (List.mem_of_mem_take hk)
   ·rcases List.mem_cons.1 hk with rfl|hk
    ·exact⟨by simp,hn⟩
    ·exact hl k (List.mem_of_mem_drop hk)
 |some k0=>
  rw[hf]at hk
  simp only at hk
  obtain⟨⟨hi,he⟩,_⟩:=zdf hs hf
  have hk0:=hl k0 (he▸List.getElem_mem hi)
  have hk3:=hll k0 (he▸List.getElem_mem hi)
  split at hk
  ·cases hk
  ·split at hk
   ·cases hk
   ·split at hk
    ·exact hl k hk
    ·split at hk
     ·cases hk
     ·rcases List.mem_or_eq_of_mem_set hk with hk|rfl
      ·exact hl k hk
      ·refine⟨?_,hk0.2⟩
       simp only
       unfold zh8
       repeat' split
       all_goals simp
       all_goals omega
theorem zoQ {l:List Lk} {name:ByteArray} {c t:Int} (hl:∀k∈l,k.line.length<2^30∧k.name.size<2^62) (hs:SL l):
  ∀k∈(zbN l name c t).1,k.line.length<2^30∧k.name.size<2^62:=by
 intro k hk
 unfold zbN at hk
 cases hf:zc5 l name with
 |none=>rw[hf]at hk;cases hk
 |some k0=>
  rw[hf]at hk
  simp only at hk
  obtain⟨⟨hi,he⟩,_⟩:=zdf hs hf
  have hk0:=hl k0 (he▸List.getElem_mem hi)
  split at hk
  ·unfold zfK at hk
   split at hk
   ·exact hl k (List.mem_of_mem_eraseIdx hk)
   ·rename_i hline
    rcases List.mem_or_eq_of_mem_set hk with hk|rfl
    ·exact hl k hk
    ·refine⟨?_,hk0.2⟩
     have:=hk0.1
     rw[hline,List.length_cons]at this
     simp only;omega
  ·split at hk
   ·rcases List.mem_or_eq_of_mem_set hk with hk|rfl
    ·exact hl k hk
    ·refine⟨?_,hk0.2⟩
     simp only
     unfold zgn
     split
     ·exact hk0.1
     ·exact Nat.lt_of_le_of_lt (List.length_eraseIdx_le ..) hk0.1
   ·cases hk
theorem zoN {l:List Lk} {name:ByteArray} {c t:Int} {w:Bool} (h:((zaR l name c t w).2.2==10)=false):(zaR l name c t w).2.1=0:=by
 revert h
 unfold zaR
 cases zc5 l name with
 |none=>simp only;split<;>intros<;>rfl
 |some k=>
  simp only
  repeat' split
  all_goals first|(intros;rfl)|(intro h;cases h)
set_option maxHeartbeats 8000000 in
theorem zsV (s:St) (h:Small s) (hr:RightS s) (r:Req) (hro:r.ok) (hm:Req.may r=true):CallOK Tryz.prog 100 [.f (zu4 s), .f (.agg (r.enc.map C.d))]
  (fun x o=>x=[zu5 (zbm s r).1,zj5 (zbm s r).2]∧o=[]):=by
 refine CallOK.nil ?_
 refine zac zas mixed (T:=Ty) (n:=147) Tryz.func100 (c:=Tryz.f100.body.getD .skip) rfl Tryz.results100 Tryz.ntmps100 Tryz.call100 ?_
 simp only[Tryz.f100,Option.getD]
 obtain⟨hc,_,hnm⟩:=zj7 hm
 have hfi:=zeh s.sess (by have:=h.sess;omega) r.client
 have hT:=hr.token
 have hH:zbB=2^61:=by decide
 have hll:∀k∈s.locks,k.line.length<2^30:=fun k hk=>(h.line k hk).1
 have hl3:∀k∈s.locks,k.line.length≤3:=fun k hk=>(zbF.1 (hr.lok k hk).2.2.1).1
 have hlf:∀k∈s.locks,k.line.length<2^30∧k.line.Nodup:=fun k hk=>⟨hll k hk,zfO hr k hk⟩
 cases h1:r.kind==1
 ·cases hf:zaA s.sess r.client with
  |none=>
   rw[hf]at hfi
   simp only[Option.isSome_none,Option.getD_none]at hfi
   have hd:zbm s r=(s,⟨9,0,0,[]⟩):=by unfold zbm;rw[if_neg (by rw[h1];simp),hf]
   rw[hd]
   repeat'(first|refine zq h1 ?_|exact zd h1|refine zc (hfi) ?_|refine zg (hfi) ?_|(refine zaa ?_ ?_<;>intro hb)|(refine And.intro ?_ ?_;exact zI)|(refine And.intro ?_ ?_<;>intro hg)|exact zC|fail)
   all_goals simp[zbO,zfo,zbH,zaz]
  |some x=>
   rw[hf]at hfi
   simp only[Option.isSome_some,Option.getD_some]at hfi
   cases hx:x.num !=r.session
   ·have hrn:=zrc s.sess hr.ss h.sess r.client s.time hr.time (by rw[hf];rfl)
    have hwt:IntKind.i64.wrap (s.token+1)=s.token+1:=wrap64 (by omega) (by omega)
    obtain⟨hrf,hrl⟩:=zoO hr hf
    obtain⟨S1,hS1⟩:∃S1,S1=(zco s.sess r.client s.time).1:=⟨_,rfl⟩
    rw[←hS1]at hrf hrl
    have hsm:∀(t:Int) (L:List Lk),L.length<2^30→(∀k∈L,k.line.length<2^30∧k.name.size<2^62)→Small ⟨s.time,s.num,t,S1,L,s.memos⟩:=fun t L h1 h2=>⟨by simp only;have:=h.sess;omega,h1,h.memos,h2,h.held⟩
    have hto:∀(t:Int) (L:List Lk) (code ahead:Int),L.length<2^30→(∀k∈L,k.line.length<2^30∧k.name.size<2^62)→CallOK Tryz.prog 150 [.f (zu4 ⟨s.time,s.num,t,S1,L,s.memos⟩), .f (ai r.client), .f (ai code), .f (ai ahead)]
      (fun y o=>y=[zj5 ⟨code,x.num,ahead,zbW L r.client⟩]∧o=[]):=fun t L code ahead h1 h2=>by
     have:=zkm ⟨s.time,s.num,t,S1,L,s.memos⟩ (hsm t L h1 h2) r.client code ahead
     simp only[hrf]at this
     exact this
    have hd0:zbm s r=if(r.kind==3||r.kind==4)=true then
      (if((zaR s.locks r.name r.client s.token (r.kind==3)).2.2==0)=true then(⟨s.time,s.num,s.token+1,S1,(zaR s.locks r.name r.client s.token (r.kind==3)).1,s.memos⟩,⟨(zaR s.locks r.name r.client s.token (r.kind==3)).2.2,x.num,0,zbW (zaR s.locks r.name r.client s.token (r.kind==3)).1 r.client⟩)
      else if((zaR s.locks r.name r.client s.token (r.kind==3)).2.2==10)=true then(⟨s.time,s.num,s.token,S1,(zaR s.locks r.name r.client s.token (r.kind==3)).1,s.memos⟩,⟨(zaR s.locks r.name r.client s.token (r.kind==3)).2.2,x.num,(zaR s.locks r.name r.client s.token (r.kind==3)).2.1,zbW (zaR s.locks r.name r.client s.token (r.kind==3)).1 r.client⟩)
      else(⟨s.time,s.num,s.token,S1,s.locks,s.memos⟩,⟨(zaR s.locks r.name r.client s.token (r.kind==3)).2.2,x.num,0,zbW s.locks r.client⟩))
     else if(r.kind==5)=true then
      (if((zbN s.locks r.name r.client s.token).2.2==0)=true then(⟨s.time,s.num,s.token+(zbN s.locks r.name r.client s.token).2.1,S1,(zbN s.locks r.name r.client s.token).1,s.memos⟩,⟨(zbN s.locks r.name r.client s.token).2.2,x.num,0,zbW (zbN s.locks r.name r.client s.token).1 r.client⟩)
      else(⟨s.time,s.num,s.token,S1,s.locks,s.memos⟩,⟨(zbN s.locks r.name r.client s.token).2.2,x.num,0,zbW s.locks r.client⟩))
     else if(r.kind==6)=true then(zbv ⟨s.time,s.num,s.token,S1,s.locks,s.memos⟩ [r.client],⟨0,0,0,[]⟩)
     else(⟨s.time,s.num,s.token,S1,s.locks,s.memos⟩,⟨0,x.num,0,zbW s.locks r.client⟩):=by
     rw[hS1]
     unfold zbm
     rw[if_neg (by rw[h1];simp),hf]
     simp only
     rw[if_neg (by rw[hx];simp)]
     split
     ·by_cases e0:(zaR s.locks r.name r.client s.token (r.kind==3)).2.2=0
      ·rw[if_pos e0,if_neg (by rw[e0];decide),if_pos (by simpa using e0)]
      ·by_cases e10:(zaR s.locks r.name r.client s.token (r.kind==3)).2.2=10
       ·rw[if_neg e0,if_pos e10,if_pos e10,if_neg (by simpa using e0),if_pos (by simpa using e10)]
       ·rw[if_neg e0,if_neg e10,if_neg e10,if_neg (by simpa using e0),if_neg (by simpa using e10)]
     ·split
      ·by_cases e0:(zbN s.locks r.name r.client s.token).2.2=0
       ·rw[if_pos e0,if_pos (by simpa using e0)]
       ·rw[if_neg e0,if_neg (by simpa using e0)]
      ·rfl
    rw[←hS1]at hrn
    have htl:=zqC s.locks r.name r.client s.token (r.kind==3)
    have hfl:=zqD s.locks r.name r.client s.token
    have hnl:=hr.ll
    have htn:=zoP (name:=r.name) (c:=r.client) (t:=s.token) (w:=r.kind==3) h.line hr.ls hl3 hro.2.2.2.2
    have hfn:=zoQ (name:=r.name) (c:=r.client) (t:=s.token) h.line hr.ls
    have hta:=zs2 s.locks hr.ls h.locks hll r.name r.client s.token (by omega) hc (r.kind==3)
    have hfr:=znS s.locks hr.ls h.locks hlf r.name r.client s.token (by omega)
    have htz:=zoN (l:=s.locks) (name:=r.name) (c:=r.client) (t:=s.token) (w:=r.kind==3)
    cases h3:r.kind==3
    ·rw[h3]at hta htl htn htz
     rw[h3,Bool.false_or]at hd0
     cases h4:r.kind==4
     ·rw[h4,if_neg (by simp)]at hd0
      cases h5:r.kind==5
      ·rw[h5,if_neg (by simp)]at hd0
       cases h6:r.kind==6
       ·rw[h6,if_neg (by simp)]at hd0
        rw[hd0]
        have ht1:=hto s.token s.locks 0 0 h.locks h.line
        repeat'(first|(with_reducible first|refine za6 8 ?_|refine zaL 8 ?_|refine zaM 8 ?_)|refine zu (I h1 (I hx (I h3 (I h4 (I h5 h6))))) ?_|exact zd (I h1 (I hx (I h3 (I h4 (I h5 h6)))))|(with_reducible first|refine zad _ _ ?_)|refine zc (hfi) ?_|refine zg (hfi) ?_|refine zc (hrn) ?_|refine zg (hrn) ?_|(refine zaa ?_ ?_<;>intro hb)|(refine And.intro ?_ ?_;exact zI)|(refine And.intro ?_ ?_<;>intro hg)|exact zC|fail)
        refine za2 (za1 (Gh.sealF 2 3 (.own ⟨2,4,7⟩ 0 S1.length) ?_) ?_)
        ·exact zo0
        refine zf0 ?_
        repeat'(first|refine zq (I h1 (I hx (I h3 (I h4 (I h5 h6))))) ?_|exact zd (I h1 (I hx (I h3 (I h4 (I h5 h6)))))|refine zc (ht1) ?_|refine zg (ht1) ?_|(refine zaa ?_ ?_<;>intro hb)|(refine And.intro ?_ ?_;exact zI)|(refine And.intro ?_ ?_<;>intro hg)|exact zC|fail)
        simp[zbO,zfo,zbH,zaz]
       ·rw[h6,if_pos rfl]at hd0
        rw[hd0]
        have hwo:=zlI ⟨s.time,s.num,s.token,S1,s.locks,s.memos⟩ (hsm s.token s.locks h.locks h.line) hr.ls (fun k hk=>zfO hr k hk) hr.token [r.client] (by simp)
        repeat'(first|(with_reducible first|refine za6 8 ?_|refine zaL 8 ?_|refine zaM 8 ?_)|refine zu (I h1 (I hx (I h3 (I h4 (I h5 h6))))) ?_|exact zd (I h1 (I hx (I h3 (I h4 (I h5 h6)))))|(with_reducible first|refine zad _ _ ?_)|refine zc (hfi) ?_|refine zg (hfi) ?_|refine zc (hrn) ?_|refine zg (hrn) ?_|(refine zaa ?_ ?_<;>intro hb)|(refine And.intro ?_ ?_;exact zI)|(refine And.intro ?_ ?_<;>intro hg)|exact zC|fail)
        refine za2 (za1 (Gh.sealF 2 3 (.own ⟨2,4,7⟩ 0 S1.length) ?_) ?_)
        ·exact zo0
        refine zf0 ?_
        repeat'(first|refine zq (I h1 (I hx (I h3 (I h4 (I h5 h6))))) ?_|exact zd (I h1 (I hx (I h3 (I h4 (I h5 h6)))))|refine zc (hwo) ?_|refine zg (hwo) ?_|(refine zaa ?_ ?_<;>intro hb)|(refine And.intro ?_ ?_;exact zI)|(refine And.intro ?_ ?_<;>intro hg)|exact zC|fail)
        simp[zbO,zfo,zbH,zaz]
      ·rw[h5,if_pos rfl]at hd0
       have hgi:=zqE s.locks r.name r.client s.token
       generalize hT0:zbN s.locks r.name r.client s.token=T at*
       cases e0:T.2.2==0
       ·rw[e0,if_neg (by simp)]at hd0
        rw[hd0]
        have ht1:=hto s.token s.locks T.2.2 0 h.locks h.line
        repeat'(first|(with_reducible first|refine za6 8 ?_|refine zaL 8 ?_|refine zaM 8 ?_)|refine zu (I h1 (I hx (I h3 (I h4 (I h5 e0))))) ?_|exact zd (I h1 (I hx (I h3 (I h4 (I h5 e0)))))|(with_reducible first|refine zad _ _ ?_)|refine zc (hfi) ?_|refine zg (hfi) ?_|refine zc (hrn) ?_|refine zg (hrn) ?_|(refine zaa ?_ ?_<;>intro hb)|(refine And.intro ?_ ?_;exact zI)|(refine And.intro ?_ ?_<;>intro hg)|exact zC|fail)
        refine za2 (za1 (Gh.sealF 2 3 (.own ⟨2,4,7⟩ 0 S1.length) ?_) ?_)
        ·exact zo0
        refine zf0 ?_
        repeat'(first|refine zq (I h1 (I hx (I h3 (I h4 (I h5 e0))))) ?_|exact zd (I h1 (I hx (I h3 (I h4 (I h5 e0)))))|refine zc (hfr) ?_|refine zg (hfr) ?_|refine zc (ht1) ?_|refine zg (ht1) ?_|(refine zaa ?_ ?_<;>intro hb)|(refine And.intro ?_ ?_;exact zI)|(refine And.intro ?_ ?_<;>intro hg)|exact zC|fail)
        simp[zbO,zfo,zbH,zaz]
       ·rw[e0,if_pos rfl]at hd0
        have hwf:IntKind.i64.wrap (s.token+T.2.1)=s.token+T.2.1:=wrap64 (by omega) (by omega)
        rw[hd0]
        have ht1:=hto (s.token+T.2.1) T.1 T.2.2 0 (by omega) hfn
        repeat'(first|(with_reducible first|refine za6 8 ?_|refine zaL 8 ?_|refine zaM 8 ?_)|refine zu (I h1 (I hx (I h3 (I h4 (I h5 e0))))) ?_|exact zd (I h1 (I hx (I h3 (I h4 (I h5 e0)))))|(with_reducible first|refine zad _ _ ?_)|refine zc (hfi) ?_|refine zg (hfi) ?_|refine zc (hrn) ?_|refine zg (hrn) ?_|(refine zaa ?_ ?_<;>intro hb)|(refine And.intro ?_ ?_;exact zI)|(refine And.intro ?_ ?_<;>intro hg)|exact zC|fail)
        refine za2 (za1 (Gh.sealF 2 3 (.own ⟨2,4,7⟩ 0 S1.length) ?_) ?_)
        ·exact zo0
        refine zf0 ?_
        repeat'(first|(with_reducible first|refine za6 22 ?_|refine zaL 22 ?_|refine zaM 22 ?_)|refine zu (I h1 (I hx (I h3 (I h4 (I h5 (I e0 hwf)))))) ?_|exact zd (I h1 (I hx (I h3 (I h4 (I h5 (I e0 hwf))))))|(with_reducible first|refine zad _ _ ?_)|refine zc (hfr) ?_|refine zg (hfr) ?_|(refine zaa ?_ ?_<;>intro hb)|(refine And.intro ?_ ?_;exact zI)|(refine And.intro ?_ ?_<;>intro hg)|exact zC|fail)
        refine za2 (za1 (Gh.sealF 2 4 (.own ⟨2,5,8⟩ 0 T.1.length) ?_) ?_)
        ·exact zo0
        refine zf0 ?_
        repeat'(first|refine zq (I h1 (I hx (I h3 (I h4 (I h5 (I e0 hwf)))))) ?_|exact zd (I h1 (I hx (I h3 (I h4 (I h5 (I e0 hwf))))))|refine zc (ht1) ?_|refine zg (ht1) ?_|(refine zaa ?_ ?_<;>intro hb)|(refine And.intro ?_ ?_;exact zI)|(refine And.intro ?_ ?_<;>intro hg)|exact zC|fail)
        simp[zbO,zfo,zbH,zaz]
     ·rw[h4,if_pos rfl]at hd0
      generalize hT0:zaR s.locks r.name r.client s.token false=T at*
      cases e0:T.2.2==0
      ·cases e10:T.2.2==10
       ·rw[e0,if_neg (by simp),e10,if_neg (by simp)]at hd0
        rw[hd0]
        have ht1:=hto s.token s.locks T.2.2 0 h.locks h.line
        have hz:=htz e10
        rw[hz]at hta
        repeat'(first|(with_reducible first|refine za6 8 ?_|refine zaL 8 ?_|refine zaM 8 ?_)|refine zu (I h1 (I hx (I h3 (I h4 (I e0 e10))))) ?_|exact zd (I h1 (I hx (I h3 (I h4 (I e0 e10)))))|(with_reducible first|refine zad _ _ ?_)|refine zc (hfi) ?_|refine zg (hfi) ?_|refine zc (hrn) ?_|refine zg (hrn) ?_|(refine zaa ?_ ?_<;>intro hb)|(refine And.intro ?_ ?_;exact zI)|(refine And.intro ?_ ?_<;>intro hg)|exact zC|fail)
        refine za2 (za1 (Gh.sealF 2 3 (.own ⟨2,4,7⟩ 0 S1.length) ?_) ?_)
        ·exact zo0
        refine zf0 ?_
        repeat'(first|refine zq (I h1 (I hx (I h3 (I h4 (I e0 (I e10 hwt)))))) ?_|exact zd (I h1 (I hx (I h3 (I h4 (I e0 (I e10 hwt))))))|refine zc (hta) ?_|refine zg (hta) ?_|refine zc (ht1) ?_|refine zg (ht1) ?_|(refine zaa ?_ ?_<;>intro hb)|(refine And.intro ?_ ?_;exact zI)|(refine And.intro ?_ ?_<;>intro hg)|exact zC|fail)
        simp[zbO,zfo,zbH,zaz]
       ·rw[e0,if_neg (by simp),e10,if_pos rfl]at hd0
        rw[hd0]
        have ht1:=hto s.token T.1 T.2.2 T.2.1 (by omega) htn
        repeat'(first|(with_reducible first|refine za6 8 ?_|refine zaL 8 ?_|refine zaM 8 ?_)|refine zu (I h1 (I hx (I h3 (I h4 (I e0 e10))))) ?_|exact zd (I h1 (I hx (I h3 (I h4 (I e0 e10)))))|(with_reducible first|refine zad _ _ ?_)|refine zc (hfi) ?_|refine zg (hfi) ?_|refine zc (hrn) ?_|refine zg (hrn) ?_|(refine zaa ?_ ?_<;>intro hb)|(refine And.intro ?_ ?_;exact zI)|(refine And.intro ?_ ?_<;>intro hg)|exact zC|fail)
        refine za2 (za1 (Gh.sealF 2 3 (.own ⟨2,4,7⟩ 0 S1.length) ?_) ?_)
        ·exact zo0
        refine zf0 ?_
        repeat'(first|(with_reducible first|refine za6 16 ?_|refine zaL 16 ?_|refine zaM 16 ?_)|refine zu (I h1 (I hx (I h3 (I h4 (I e0 (I e10 hwt)))))) ?_|exact zd (I h1 (I hx (I h3 (I h4 (I e0 (I e10 hwt))))))|(with_reducible first|refine zad _ _ ?_)|refine zc (hta) ?_|refine zg (hta) ?_|(refine zaa ?_ ?_<;>intro hb)|(refine And.intro ?_ ?_;exact zI)|(refine And.intro ?_ ?_<;>intro hg)|exact zC|fail)
        refine za2 (za1 (Gh.sealF 2 4 (.own ⟨2,5,8⟩ 0 T.1.length) ?_) ?_)
        ·exact zo0
        refine zf0 ?_
        repeat'(first|refine zq (I h1 (I hx (I h3 (I h4 (I e0 (I e10 hwt)))))) ?_|exact zd (I h1 (I hx (I h3 (I h4 (I e0 (I e10 hwt))))))|refine zc (ht1) ?_|refine zg (ht1) ?_|(refine zaa ?_ ?_<;>intro hb)|(refine And.intro ?_ ?_;exact zI)|(refine And.intro ?_ ?_<;>intro hg)|exact zC|fail)
        simp[zbO,zfo,zbH,zaz]
      ·rw[e0,if_pos rfl]at hd0
       rw[hd0]
       have ht1:=hto (s.token+1) T.1 T.2.2 0 (by omega) htn
       have hz:=htz (by have:T.2.2=0:=(by simpa using e0);rw[this];rfl)
       rw[hz]at hta
       repeat'(first|(with_reducible first|refine za6 8 ?_|refine zaL 8 ?_|refine zaM 8 ?_)|refine zu (I h1 (I hx (I h3 (I h4 e0)))) ?_|exact zd (I h1 (I hx (I h3 (I h4 e0))))|(with_reducible first|refine zad _ _ ?_)|refine zc (hfi) ?_|refine zg (hfi) ?_|refine zc (hrn) ?_|refine zg (hrn) ?_|(refine zaa ?_ ?_<;>intro hb)|(refine And.intro ?_ ?_;exact zI)|(refine And.intro ?_ ?_<;>intro hg)|exact zC|fail)
       refine za2 (za1 (Gh.sealF 2 3 (.own ⟨2,4,7⟩ 0 S1.length) ?_) ?_)
       ·exact zo0
       refine zf0 ?_
       repeat'(first|(with_reducible first|refine za6 16 ?_|refine zaL 16 ?_|refine zaM 16 ?_)|refine zu (I h1 (I hx (I h3 (I h4 (I e0 hwt))))) ?_|exact zd (I h1 (I hx (I h3 (I h4 (I e0 hwt)))))|(with_reducible first|refine zad _ _ ?_)|refine zc (hta) ?_|refine zg (hta) ?_|(refine zaa ?_ ?_<;>intro hb)|(refine And.intro ?_ ?_;exact zI)|(refine And.intro ?_ ?_<;>intro hg)|exact zC|fail)
       refine za2 (za1 (Gh.sealF 2 4 (.own ⟨2,5,8⟩ 0 T.1.length) ?_) ?_)
       ·exact zo0
       refine zf0 ?_
       repeat'(first|refine zq (I h1 (I hx (I h3 (I h4 (I e0 hwt))))) ?_|exact zd (I h1 (I hx (I h3 (I h4 (I e0 hwt)))))|refine zc (ht1) ?_|refine zg (ht1) ?_|(refine zaa ?_ ?_<;>intro hb)|(refine And.intro ?_ ?_;exact zI)|(refine And.intro ?_ ?_<;>intro hg)|exact zC|fail)
       simp[zbO,zfo,zbH,zaz]
    ·rw[h3]at hta htl htn htz
     rw[h3,Bool.true_or,if_pos rfl]at hd0
     generalize hT0:zaR s.locks r.name r.client s.token true=T at*
     cases e0:T.2.2==0
     ·cases e10:T.2.2==10
      ·rw[e0,if_neg (by simp),e10,if_neg (by simp)]at hd0
       rw[hd0]
       have ht1:=hto s.token s.locks T.2.2 0 h.locks h.line
       have hz:=htz e10
       rw[hz]at hta
       repeat'(first|(with_reducible first|refine za6 8 ?_|refine zaL 8 ?_|refine zaM 8 ?_)|refine zu (I h1 (I hx (I h3 (I e0 e10)))) ?_|exact zd (I h1 (I hx (I h3 (I e0 e10))))|(with_reducible first|refine zad _ _ ?_)|refine zc (hfi) ?_|refine zg (hfi) ?_|refine zc (hrn) ?_|refine zg (hrn) ?_|(refine zaa ?_ ?_<;>intro hb)|(refine And.intro ?_ ?_;exact zI)|(refine And.intro ?_ ?_<;>intro hg)|exact zC|fail)
       refine za2 (za1 (Gh.sealF 2 3 (.own ⟨2,4,7⟩ 0 S1.length) ?_) ?_)
       ·exact zo0
       refine zf0 ?_
       repeat'(first|refine zq (I h1 (I hx (I h3 (I e0 (I e10 hwt))))) ?_|exact zd (I h1 (I hx (I h3 (I e0 (I e10 hwt)))))|refine zc (hta) ?_|refine zg (hta) ?_|refine zc (ht1) ?_|refine zg (ht1) ?_|(refine zaa ?_ ?_<;>intro hb)|(refine And.intro ?_ ?_;exact zI)|(refine And.intro ?_ ?_<;>intro hg)|exact zC|fail)
       simp[zbO,zfo,zbH,zaz]
      ·rw[e0,if_neg (by simp),e10,if_pos rfl]at hd0
       rw[hd0]
       have ht1:=hto s.token T.1 T.2.2 T.2.1 (by omega) htn
       repeat'(first|(with_reducible first|refine za6 8 ?_|refine zaL 8 ?_|refine zaM 8 ?_)|refine zu (I h1 (I hx (I h3 (I e0 e10)))) ?_|exact zd (I h1 (I hx (I h3 (I e0 e10))))|(with_reducible first|refine zad _ _ ?_)|refine zc (hfi) ?_|refine zg (hfi) ?_|refine zc (hrn) ?_|refine zg (hrn) ?_|(refine zaa ?_ ?_<;>intro hb)|(refine And.intro ?_ ?_;exact zI)|(refine And.intro ?_ ?_<;>intro hg)|exact zC|fail)
       refine za2 (za1 (Gh.sealF 2 3 (.own ⟨2,4,7⟩ 0 S1.length) ?_) ?_)
       ·exact zo0
       refine zf0 ?_
       repeat'(first|(with_reducible first|refine za6 16 ?_|refine zaL 16 ?_|refine zaM 16 ?_)|refine zu (I h1 (I hx (I h3 (I e0 (I e10 hwt))))) ?_|exact zd (I h1 (I hx (I h3 (I e0 (I e10 hwt)))))|(with_reducible first|refine zad _ _ ?_)|refine zc (hta) ?_|refine zg (hta) ?_|(refine zaa ?_ ?_<;>intro hb)|(refine And.intro ?_ ?_;exact zI)|(refine And.intro ?_ ?_<;>intro hg)|exact zC|fail)
       refine za2 (za1 (Gh.sealF 2 4 (.own ⟨2,5,8⟩ 0 T.1.length) ?_) ?_)
       ·exact zo0
       refine zf0 ?_
       repeat'(first|refine zq (I h1 (I hx (I h3 (I e0 (I e10 hwt))))) ?_|exact zd (I h1 (I hx (I h3 (I e0 (I e10 hwt)))))|refine zc (ht1) ?_|refine zg (ht1) ?_|(refine zaa ?_ ?_<;>intro hb)|(refine And.intro ?_ ?_;exact zI)|(refine And.intro ?_ ?_<;>intro hg)|exact zC|fail)
       simp[zbO,zfo,zbH,zaz]
     ·rw[e0,if_pos rfl]at hd0
      rw[hd0]
      have ht1:=hto (s.token+1) T.1 T.2.2 0 (by omega) htn
      have hz:=htz (by have:T.2.2=0:=(by simpa using e0);rw[this];rfl)
      rw[hz]at hta
      repeat'(first|(with_reducible first|refine za6 8 ?_|refine zaL 8 ?_|refine zaM 8 ?_)|refine zu (I h1 (I hx (I h3 e0))) ?_|exact zd (I h1 (I hx (I h3 e0)))|(with_reducible first|refine zad _ _ ?_)|refine zc (hfi) ?_|refine zg (hfi) ?_|refine zc (hrn) ?_|refine zg (hrn) ?_|(refine zaa ?_ ?_<;>intro hb)|(refine And.intro ?_ ?_;exact zI)|(refine And.intro ?_ ?_<;>intro hg)|exact zC|fail)
      refine za2 (za1 (Gh.sealF 2 3 (.own ⟨2,4,7⟩ 0 S1.length) ?_) ?_)
      ·exact zo0
      refine zf0 ?_
      repeat'(first|(with_reducible first|refine za6 16 ?_|refine zaL 16 ?_|refine zaM 16 ?_)|refine zu (I h1 (I hx (I h3 (I e0 hwt)))) ?_|exact zd (I h1 (I hx (I h3 (I e0 hwt))))|(with_reducible first|refine zad _ _ ?_)|refine zc (hta) ?_|refine zg (hta) ?_|(refine zaa ?_ ?_<;>intro hb)|(refine And.intro ?_ ?_;exact zI)|(refine And.intro ?_ ?_<;>intro hg)|exact zC|fail)
      refine za2 (za1 (Gh.sealF 2 4 (.own ⟨2,5,8⟩ 0 T.1.length) ?_) ?_)
      ·exact zo0
      refine zf0 ?_
      repeat'(first|refine zq (I h1 (I hx (I h3 (I e0 hwt)))) ?_|exact zd (I h1 (I hx (I h3 (I e0 hwt))))|refine zc (ht1) ?_|refine zg (ht1) ?_|(refine zaa ?_ ?_<;>intro hb)|(refine And.intro ?_ ?_;exact zI)|(refine And.intro ?_ ?_<;>intro hg)|exact zC|fail)
      simp[zbO,zfo,zbH,zaz]
   ·have hd:zbm s r=(s,⟨9,0,0,[]⟩):=by unfold zbm;rw[if_neg (by rw[h1];simp),hf];simp only;rw[if_pos hx]
    rw[hd]
    repeat'(first|refine zq (I h1 hx) ?_|exact zd (I h1 hx)|refine zc (hfi) ?_|refine zg (hfi) ?_|(refine zaa ?_ ?_<;>intro hb)|(refine And.intro ?_ ?_;exact zI)|(refine And.intro ?_ ?_<;>intro hg)|exact zC|fail)
    all_goals simp[zbO,zfo,zbH,zaz]
 ·have hop:=zq8 s h hr r.client hc
  have hd:zbm s r=zcv s r.client:=by unfold zbm;rw[if_pos h1]
  rw[hd]
  repeat'(first|refine zq h1 ?_|exact zd h1|refine zc (hfi) ?_|refine zg (hfi) ?_|refine zc (hop) ?_|refine zg (hop) ?_|(refine zaa ?_ ?_<;>intro hb)|(refine And.intro ?_ ?_;exact zI)|(refine And.intro ?_ ?_<;>intro hg)|exact zC|fail)
  all_goals simp[zbO,zfo,zbH,zaz]
def zaK (n:Int):Prop:=0≤n∧n<256
theorem zcG {n:Int} (h:zaK n):IntKind.i64.wrap n=n:=by have:=h;unfold zaK at this;exact wrap64 (by omega) (by omega)
theorem zdd {n:Int} (h:0≤n) (k:Int):n.tmod k=n % k:=Int.tmod_eq_emod_of_nonneg h
def zv3:List ByteArray:=[⟨#[97]⟩,⟨#[98]⟩,⟨#[99]⟩,⟨#[100]⟩,⟨#[107,101,121,45,49]⟩,⟨#[116,104,101,45,108,97,115,116,45,111,110,101]⟩]
def zln (n:Int):ByteArray:=(zv3[(n % 6).toNat]?).getD .empty
theorem six (n:Int):n % 6=0∨n % 6=1∨n % 6=2∨n % 6=3∨n % 6=4∨n % 6=5:=by omega
theorem zqx (n:Int) (hn:zaK n):CallOK Tryz.prog 157 [.f (au n)] (fun r o=>r=[.one (.d (sD (zln n)))]∧o=[]):=by
 refine zac zas mixed (T:=Ty) (n:=9) Tryz.func157 (c:=Tryz.f157.body.getD .skip) rfl Tryz.results157 Tryz.ntmps157 Tryz.call157 ?_
 simp only[Tryz.f157,Option.getD]
 have hw:=zcG hn
 have ht:=zdd hn.1 6
 unfold zln
 rcases six n with h|h|h|h|h|h
 all_goals
  rw[h]at ht⊢
  repeat'(first|(with_reducible first|refine zad _ _ ?_|refine zaS ?_|refine zaT ?_)|rw[zaI]|simp only[hw,ht,Int.reduceToNat,List.drop_succ_cons,List.drop_zero,zY,Int.reduceEq,Int.reduceBEq,Int.reduceBNe,Nat.reduceSub,Nat.reduceEqDiff,Nat.reduceAdd,Nat.reduceMul,Nat.reduceLeDiff,Nat.reduceLT,Nat.reduceBEq,reduceCtorEq]|refine zax ?_|refine zaa (fun hb=> ?_) (fun hb=> ?_)|(refine And.intro ?_ ?_;exact zI)|refine And.intro (fun hg=> ?_) (fun hg=> ?_)|exact zC|fail)
  rfl
def ziA (a:Int):Int:=1+a % 6
def zoy (a b:Int):Int:=if ziA a=1 then 0 else 1+b % 7
def zqy (a c:Int):ByteArray:=if(ziA a==3||ziA a==4||ziA a==5)=true then zln c else .empty
theorem zuZ (a b c:Int) (ha:zaK a) (hb:zaK b) (hc:zaK c):CallOK Tryz.prog 111 [.f (au a), .f (au b), .f (au c)] (fun r o=>r=[.agg [.d (iD (ziA a)), .d (iD (zoy a b)), .d (sD (zqy a c))]]∧o=[]):=by
 refine zac zas mixed (T:=Ty) (n:=30) Tryz.func111 (c:=Tryz.f111.body.getD .skip) rfl Tryz.results111 Tryz.ntmps111 Tryz.call111 ?_
 simp only[Tryz.f111,Option.getD]
 have hnm:=zqx c hc
 have hwa:=zcG ha
 have hwb:=zcG hb
 have hta:=zdd ha.1 6
 have htb:=zdd hb.1 7
 have hws:IntKind.i64.wrap (1+b % 7)=1+b % 7:=wrap64 (by omega) (by omega)
 unfold zqy zoy ziA
 have w1:IntKind.i64.wrap 1=1:=rfl
 have w2:IntKind.i64.wrap 2=2:=rfl
 have w3:IntKind.i64.wrap 3=3:=rfl
 have w4:IntKind.i64.wrap 4=4:=rfl
 have w5:IntKind.i64.wrap 5=5:=rfl
 have w6:IntKind.i64.wrap 6=6:=rfl
 rcases six a with h|h|h|h|h|h
 all_goals
  rw[h]at hta⊢
  repeat'(first|(with_reducible first|refine zad _ _ ?_|refine zaS ?_|refine zaT ?_)|rw[zaI]|simp only[hwa,hwb,hta,htb,hws,w1,w2,w3,w4,w5,w6,Int.reduceAdd,Int.reduceEq,Int.reduceBEq,zY,Int.reduceEq,Int.reduceBEq,Int.reduceBNe,Nat.reduceSub,Nat.reduceEqDiff,Nat.reduceAdd,Nat.reduceMul,Nat.reduceLeDiff,Nat.reduceLT,Nat.reduceBEq,reduceCtorEq]|((first|((try refine zaV ?_);apply za9)|(apply zbc;intro _));(solve|exact(hnm)|(refine CallOK.le (hnm) ?_;exact zM)|fail);try case hn=>rfl)|refine zax ?_|refine zaa (fun hb=> ?_) (fun hb=> ?_)|(refine And.intro ?_ ?_;exact zI)|refine And.intro (fun hg=> ?_) (fun hg=> ?_)|exact zC|fail)
structure Act where
 time:Int
 client:Int
 seq:Int
 kind:Int
 session:Int
 name:Int
abbrev Act.enc (a:Act):List D:=[uD a.time,uD a.client,uD a.seq,uD a.kind,uD a.session,uD a.name]
abbrev zlo (l:List Act):List D:=l.flatMap Act.enc
def zmy (a:Act):Prop:=zaK a.time∧zaK a.client∧zaK a.seq∧zaK a.kind∧zaK a.session∧zaK a.name
theorem zu1 {l:List Act} {i:Nat} (hi:i<l.length):(zlo l).drop (i*6)=l[i].enc++(zlo (l.drop (i+1))):=zdF _ 6 l i hi fun _=>rfl
theorem znJ {l:List Act}:(zlo l).length=l.length*6:=zcR _ 6 (fun _=>rfl) l
def zwj (c q k s n:Int):Req:=⟨c % 8,1+q,ziA k,zoy k s,zqy k n⟩
theorem zu3 (c q k s n:Int) (h1:zaK c) (h2:zaK q) (h3:zaK k) (h4:zaK s) (h5:zaK n):CallOK Tryz.prog 60 [.f (au c), .f (au q), .f (au k), .f (au s), .f (au n)] (fun r o=>r=[.agg ((zwj c q k s n).enc.map RO.d)]∧o=[]):=by
 refine zac zas mixed (T:=Ty) (n:=22) Tryz.func60 (c:=Tryz.f60.body.getD .skip) rfl Tryz.results60 Tryz.ntmps60 Tryz.call60 ?_
 simp only[Tryz.f60,Option.getD]
 have hcm:=zuZ k s n h3 h4 h5
 have hwc:=zcG h1
 have hwq:=zcG h2
 have htc:=zdd h1.1 8
 have hq1:IntKind.i64.wrap (1+q)=1+q:=by unfold zaK at h2;exact wrap64 (by omega) (by omega)
 repeat'(first|refine zq (I hwc (I hwq (I htc hq1))) ?_|exact zd (I hwc (I hwq (I htc hq1)))|refine zc (hcm) ?_|refine zg (hcm) ?_|(refine zaa ?_ ?_<;>intro hb)|(refine And.intro ?_ ?_;exact zI)|(refine And.intro ?_ ?_<;>intro hg)|exact zC|fail)
 rfl
theorem zj4 (l:List Memo) (hl:l.length<2^62) (c:Int):CallOK Tryz.prog 61 [.f (al l.length (zaC l)), .f (ai c)]
  (fun r o=>r=[.agg (((zb3 l c).getD zfz).enc.map RO.d),rb (zb3 l c).isSome]∧o=[]):=by
 refine CallOK.nil ?_
 refine zac zas mixed (T:=Ty) (n:=25) Tryz.func61 (c:=Tryz.f61.body.getD .skip) rfl Tryz.results61 Tryz.ntmps61 Tryz.call61 ?_
 simp only[Tryz.f61,Option.getD]
 repeat'(first|refine zq0 ?_|exact zd0|(refine zaa ?_ ?_<;>intro hb)|(refine And.intro ?_ ?_;exact zI)|(refine And.intro ?_ ?_<;>intro hg)|exact zC|fail)
 refine zam (τ:=Nat) (fun i=>⟨[al l.length (zaC l),ai c,dd,dd, .one (.ptr ⟨4,0,1⟩ 0),dd,ai i,dd,dd,dd,dd,dd,dd,dd,dd,dd,dd,dd,dd,dd,dd,dd,dd,dd,dd],[(4,{next:=2,l:=[some {e:=1,var:=true,fz:=false,sz:=0,cells:=[di 0,di 0,di 0,di 0,di 0, .d (.v (.slice none 0 0))]},none,none,none,none,none,none]})]⟩)
  (fun i=>i≤l.length) (fun i=>zb3 (l.drop i) c) (fun i=>l.length - i) 0
  (Gh.canon [4] [] [] zK rfl rfl) (Nat.zero_le _) ?_
 intro i hi0 hF K hK
 rw[List.drop_zero]at hF
 refine zw ?_
 refine zaa (fun hlt=> ?_) (fun hge=> ?_)
 ·have hi:i<l.length:=by simpa using hlt
  have hat:=zcY hi
  have hw:=zaq hi hl
  have hq:zb3 (l.drop i) c=if(l[i].client==c)=true then some l[i]else zb3 (l.drop (i+1)) c:=by
   unfold zb3
   rw[List.drop_eq_getElem_cons hi,List.find?_cons]
   cases l[i].client==c<;>rfl
  rw[hq]at hF
  repeat'(first|refine zq (I hat (I @zaD zca)) ?_|exact zd (I hat (I @zaD zca))|(refine zaa ?_ ?_<;>intro hb)|(refine And.intro ?_ ?_;exact zI)|(refine And.intro ?_ ?_<;>intro hg)|exact zC|fail)
  ·rw[if_pos hb]at hF
   rw[←hF]
   simp[zbO,zfo,zbH,zaz]
  ·rw[if_neg (by rw[hb];simp)]at hq
   exact hK _ (i+1) (Gh.canon [4] [] [] (zk hw) rfl rfl) hi hq.symm (by omega)
 ·have hi:i=l.length:=by
   have:¬(i:Int)<l.length:=by simpa using hge
   omega
  rw[hi,List.drop_length]at hF
  have hF:none=zb3 l c:=hF
  rw[←hF]
  repeat'(first|refine zq0 ?_|exact zd0|(refine zaa ?_ ?_<;>intro hb)|(refine And.intro ?_ ?_;exact zI)|(refine And.intro ?_ ?_<;>intro hg)|exact zC|fail)
  simp[zbO,zfo,zbH,zaz,zfz]
def zrM (s:St) (a:Act):Req:=
 let r:=zwj a.client (a.seq % 6) a.kind a.session a.name
 let b1:=(zaA s.sess r.client).isSome&&decide (a.session % 8>0)&&(r.kind !=1)
 let b2:= !(zaA s.sess r.client).isSome&&decide (a.session % 4>0)
 ⟨r.client,if decide (a.seq % 5>0)=true then(if(zb3 s.memos r.client).isSome=true then((zb3 s.memos r.client).getD zfz).seq+1 else 1)else r.seq,
  if b2=true then 1 else r.kind,if b2=true then 0 else if b1=true then((zaA s.sess r.client).getD zeq).num else r.session,if b2=true then .empty else r.name⟩
set_option maxHeartbeats 4000000 in
theorem zoz (s:St) (h:Small s) (hr:RightS s) (a:Act) (ha:zmy a):CallOK Tryz.prog 27 [.f (.agg s.lent), .f (.agg (a.enc.map C.d))] (fun r o=>r=[.agg ((zrM s a).enc.map RO.d)]∧o=[]):=by
 refine zac zas mixed (T:=Ty) (n:=76) Tryz.func27 (c:=Tryz.f27.body.getD .skip) rfl Tryz.results27 Tryz.ntmps27 Tryz.call27 ?_
 simp only[Tryz.f27,Option.getD]
 obtain⟨_,h1,h2,h3,h4,h5⟩:=ha
 have hrq:=zu3 a.client (a.seq % 6) a.kind a.session a.name h1 (by unfold zaK;omega) h3 h4 h5
 generalize hN:zwj a.client (a.seq % 6) a.kind a.session a.name=r at*
 have hla:=zj4 s.memos (by have:=h.memos;omega) r.client
 have hfi:=zeh s.sess (by have:=h.sess;omega) r.client
 have ht6:=zdd h2.1 6
 have ht5:=zdd h2.1 5
 have ht8:=zdd h4.1 8
 have ht4:=zdd h4.1 4
 have hwm:IntKind.i64.wrap (((zb3 s.memos r.client).getD zfz).seq+1)=((zb3 s.memos r.client).getD zfz).seq+1:=by
  have hb:0≤((zb3 s.memos r.client).getD zfz).seq∧((zb3 s.memos r.client).getD zfz).seq≤zbB:=by
   cases hf:zb3 s.memos r.client with
   |none=>decide
   |some m=>
    have:=(zcH (hr.mok m (List.mem_of_find?_eq_some hf))).2.1
    simp only[Option.getD_some];omega
  have hH:zbB=2305843009213693952:=rfl
  exact wrap64 (by omega) (by omega)
 have hR:zrM s a=⟨r.client,if decide (a.seq % 5>0)=true then(if(zb3 s.memos r.client).isSome=true then((zb3 s.memos r.client).getD zfz).seq+1 else 1)else r.seq,
  if(!(zaA s.sess r.client).isSome&&decide (a.session % 4>0))=true then 1 else r.kind,if(!(zaA s.sess r.client).isSome&&decide (a.session % 4>0))=true then 0 else if((zaA s.sess r.client).isSome&&decide (a.session % 8>0)&&(r.kind !=1))=true then((zaA s.sess r.client).getD zeq).num else r.session,
  if(!(zaA s.sess r.client).isSome&&decide (a.session % 4>0))=true then .empty else r.name⟩:=by unfold zrM;rw[hN]
 generalize zrM s a=R at hR⊢
 repeat'(first|refine zq (I ht6 (I ht5 (I ht8 (I ht4 hwm)))) ?_|exact zd (I ht6 (I ht5 (I ht8 (I ht4 hwm))))|refine zc (hrq) ?_|refine zg (hrq) ?_|refine zc (hla) ?_|refine zg (hla) ?_|refine zc (hfi) ?_|refine zg (hfi) ?_|(refine zaa ?_ ?_<;>intro hb)|(refine And.intro ?_ ?_;exact zI)|(refine And.intro ?_ ?_<;>intro hg)|exact zC|fail)
 all_goals clear hrq hla hfi ht6 ht5 ht8 ht4 hwm hN h hr h1 h2 h3 h4 h5
 all_goals subst hR
 all_goals simp only[*,if_true,Bool.false_eq_true,if_false]
theorem zei (v a:Int):CallOK Tryz.prog 133 [.f (ai v), .f (ai a)] (fun r o=>r=[rb (decide (v≥a)&&decide (v≤2305843009213693952))]∧o=[]):=by
 refine zac zas mixed (T:=Ty) (n:=12) Tryz.func133 (c:=Tryz.f133.body.getD .skip) rfl Tryz.results133 Tryz.ntmps133 Tryz.call133 ?_
 simp only[Tryz.f133,Option.getD]
 repeat'(first|refine zq0 ?_|exact zd0|(refine zaa ?_ ?_<;>intro hb)|(refine And.intro ?_ ?_;exact zI)|(refine And.intro ?_ ?_<;>intro hg)|exact zC|fail)
theorem zkk (s:ByteArray) (hs:s.size<2^62):CallOK Tryz.prog 130 [.f (ast s)] (fun r o=>r=[rb (nameP s)]∧o=[]):=by
 refine zac zas mixed (T:=Ty) (n:=41) Tryz.func130 (c:=Tryz.f130.body.getD .skip) rfl Tryz.results130 Tryz.ntmps130 Tryz.call130 ?_
 simp only[Tryz.f130,Option.getD]
 refine zw ?_
 refine zaa (fun hb=> ?_) (fun hb=> ?_)
 ·refine zw ?_
  have:nameP s=false:=by
   unfold nameP
   rw[Bool.and_eq_false_iff];right
   simp only[Bool.or_eq_true,decide_eq_true_eq]at hb
   simp only[Bool.and_eq_false_iff,decide_eq_false_iff_not]
   omega
  rw[this]
 have hsz:(decide ((s.size:Int)≥1)&&decide ((s.size:Int)≤12))=true:=by
  simp only[Bool.or_eq_false_iff,decide_eq_false_iff_not]at hb
  simp only[Bool.and_eq_true,decide_eq_true_eq]
  omega
 refine zw ?_
 refine zho Ty Tryz.prog (τ:=Nat) (fun i=>⟨[ast s,dd,ab false,ai i,dd,dd,dd,dd,dd,dd,dd,dd,dd,dd,dd,dd,dd,dd,dd,dd,dd,dd,dd,dd,dd,dd,dd,dd,dd,dd,dd,dd,dd,dd,dd,dd,dd,dd,dd,dd,dd],[]⟩) (fun i=>i≤s.size∧∀j,j<i→zgo (s.data.getD j 0)=true) (fun i=>s.size - i) 0 ?_ ⟨Nat.zero_le _,fun j hj=>absurd hj (Nat.not_lt_zero j)⟩ ?_
 ·refine Gh.fgt ?_
  simp only[zce,zcf,zcS,Int.natCast_zero]
 intro i ⟨h1,h2⟩ K hK
 refine zw ?_
 refine zaa (fun hlt=> ?_) (fun hge=> ?_)
 ·have hi:i<s.size:=by simpa using hlt
  refine zw ?_
  refine⟨⟨Int.natCast_nonneg i,by omega⟩, ?_⟩
  refine⟨zqp ?_, ?_⟩
  ·simp_all;omega
  have hok:zgo (s.data.getD i 0)= !((decide (((s.data.getD i 0).toNat:Int)<97)||decide (((s.data.getD i 0).toNat:Int)>122))&&(decide (((s.data.getD i 0).toNat:Int)<48)||decide (((s.data.getD i 0).toNat:Int)>57))&&(((s.data.getD i 0).toNat:Int) !=45)):=rfl
  generalize ((s.data.getD i 0).toNat:Int)=c at hok⊢
  refine zaa (fun hb2=> ?_) (fun hb2=> ?_)
  ·refine zw ?_
   have hn:nameP s=false:=by
    unfold nameP
    rw[show((List.range s.size).all fun j=>zgo (s.data.getD j 0))=false from List.all_eq_false.2 ⟨i,List.mem_range.2 hi,by rw[hok];revert hb2;simp;omega⟩,Bool.false_and]
   rw[hn]
  ·refine zw ?_
   refine hK _ (i+1) (Gh.fgt ?_) ⟨hi,fun j hj=> ?_⟩ (by omega)
   ·simp only[zaq hi (by omega),zce,zcf,zcS]
   ·rcases Nat.lt_or_ge j i with h|h
    ·exact h2 j h
    ·rw[show j=i from by omega,hok];revert hb2;simp;omega
 ·refine zw ?_
  have hi:i=s.size:=by
   have:¬(i:Int)<s.size:=by simpa using hge
   omega
  have hn:nameP s=true:=by
   unfold nameP
   rw[show((List.range s.size).all fun j=>zgo (s.data.getD j 0))=true from List.all_eq_true.2 fun j hj=>h2 j (by rw[hi];exact List.mem_range.1 hj),Bool.true_and,hsz]
  rw[hn]
theorem zq7 (k n:Int) (s:ByteArray) (hs:s.size<2^62):CallOK Tryz.prog 146 [.f (.agg [di k,di n,dS s])] (fun r o=>r=[rb (zv4 k n s)]∧o=[]):=by
 refine zac zas mixed (T:=Ty) (n:=38) Tryz.func146 (c:=Tryz.f146.body.getD .skip) rfl Tryz.results146 Tryz.ntmps146 Tryz.call146 ?_
 simp only[Tryz.f146,Option.getD]
 repeat'(first|with_reducible refine zad _ _ ?_|rw[zaI]|simp only[zB,Nat.reduceSub,Nat.reduceEqDiff,Nat.reduceAdd,Nat.reduceMul,Nat.reduceLeDiff,Nat.reduceLT,Nat.reduceBEq,reduceCtorEq]|((first|((try refine zaV ?_);apply za9)|(apply zbc;intro _));(solve|exact(zkk _ hs)|exact(zei _ _)|(refine CallOK.le (zkk _ hs) ?_;exact zM)|(refine CallOK.le (zei _ _) ?_;exact zM)|fail);try case hn=>rfl)|refine zax ?_|refine zaa (fun hb=> ?_) (fun hb=> ?_)|(refine And.intro ?_ ?_;exact zI)|refine And.intro (fun hg=> ?_) (fun hg=> ?_)|exact zC|fail)
 all_goals refine congrArg (fun b=>[rb b]) ?_
 all_goals simp only[beq_iff_eq,beq_eq_false_iff_ne,ne_eq]at*
 all_goals first
  |(exfalso;omega)
  |(subst_vars;unfold zv4;generalize (s.toList==(⟨#[]⟩:ByteArray).toList)=q;generalize nameP s=p;cases q<;>cases p<;>simp;done)
  |(have e:(decide (k<1)||decide (k>6))=true:=(by simp;omega);unfold zv4;rw[if_pos e])
theorem zoM (r:Req) (hr:r.ok):CallOK Tryz.prog 98 [.f (.agg (r.enc.map C.d))] (fun x o=>x=[rb (Req.may r)]∧o=[]):=by
 refine zac zas mixed (T:=Ty) (n:=21) Tryz.func98 (c:=Tryz.f98.body.getD .skip) rfl Tryz.results98 Tryz.ntmps98 Tryz.call98 ?_
 simp only[Tryz.f98,Option.getD]
 repeat'(first|with_reducible refine zad _ _ ?_|rw[zaI]|simp only[zB,Nat.reduceSub,Nat.reduceEqDiff,Nat.reduceAdd,Nat.reduceMul,Nat.reduceLeDiff,Nat.reduceLT,Nat.reduceBEq,reduceCtorEq]|((first|((try refine zaV ?_);apply za9)|(apply zbc;intro _));(solve|exact(zq7 _ _ _ hr.2.2.2.2)|exact(zei _ _)|(refine CallOK.le (zq7 _ _ _ hr.2.2.2.2) ?_;exact zM)|(refine CallOK.le (zei _ _) ?_;exact zM)|fail);try case hn=>rfl)|refine zax ?_|refine zaa (fun hb=> ?_) (fun hb=> ?_)|(refine And.intro ?_ ?_;exact zI)|refine And.intro (fun hg=> ?_) (fun hg=> ?_)|exact zC|fail)
 simp[Req.may,Bool.and_assoc]
theorem zv7:∀(a b:List UInt8),(Go.Op.bytesLess a b||a==b)= !(Go.Op.bytesLess b a)
 |[],[]=>rfl
 |[],y::ys=>rfl
 |x::xs,[]=>rfl
 |x::xs,y::ys=>by
  have ih:=zv7 xs ys
  rw[Go.Op.bytesLess,Go.Op.bytesLess]
  rw[show((x::xs:List UInt8)==y::ys)=(x==y&&xs==ys) from rfl]
  have htri:x<y∨x=y∨y<x:=by
   rcases Nat.lt_trichotomy x.toNat y.toNat with h|h|h
   ·exact .inl (UInt8.lt_iff_toNat_lt.2 h)
   ·exact .inr (.inl (UInt8.toNat_inj.1 h))
   ·exact .inr (.inr (UInt8.lt_iff_toNat_lt.2 h))
  rcases htri with h|h|h
  ·have h2:¬y<x:=UInt8.lt_asymm h
   have h3:(y==x)=false:=by simp;intro e;subst e;exact absurd h (UInt8.lt_irrefl _)
   simp[h,h2,h3]
  ·subst h
   have h2:¬x<x:=UInt8.lt_irrefl _
   simp only[h2,decide_false,Bool.false_or,beq_self_eq_true,Bool.true_and]
   exact ih
  ·have h2:¬x<y:=UInt8.lt_asymm h
   have h3:(x==y)=false:=by simp;intro e;subst e;exact absurd h (UInt8.lt_irrefl _)
   simp[h,h2,h3]
def zsU (r:Reply):Bool:=decide (r.code<0)||decide (r.code>12)|| !(decide (r.session≥0)&&decide (r.session≤2305843009213693952))||decide (r.ahead<0)||decide (r.ahead>3)||decide ((r.held.length:Int)>4)||r.session==0&&decide ((r.held.length:Int)>0)
theorem zia (r:Reply):zbL r=(!(zsU r)&&zby (zcy r.held) 0 r.held):=by
 have h1:(decide (r.session≥0)&&decide (r.session≤2305843009213693952))= !(decide (r.session<0)||decide (r.session>zbB)):=by
  have hH:zbB=2305843009213693952:=rfl
  rw[Bool.eq_iff_iff];simp[hH]
 unfold zbL zsU
 rw[h1]
 generalize decide (r.code<0)=a1
 generalize decide (r.code>12)=a2
 generalize decide (r.session<0)=a3
 generalize decide (r.session>zbB)=a4
 generalize decide (r.ahead<0)=a5
 generalize decide (r.ahead>3)=a6
 generalize decide ((r.held.length:Int)>4)=a7
 generalize (r.session==0)=a8
 generalize decide ((r.held.length:Int)>0)=a9
 generalize zby (zcy r.held) 0 r.held=a0
 cases a1<;>cases a2<;>cases a3<;>cases a4<;>cases a5<;>cases a6<;>first|rfl|(cases a7<;>cases a8<;>cases a9<;>rfl)
set_option maxHeartbeats 2000000 in
theorem zg4 (r:Reply) (hr:zcd r):CallOK Tryz.prog 134 [.f (.agg r.lent)] (fun x o=>x=[rb (zbL r)]∧o=[]):=by
 refine zac zas mixed (T:=Ty) (n:=84) Tryz.func134 (c:=Tryz.f134.body.getD .skip) rfl Tryz.results134 Tryz.ntmps134 Tryz.call134 ?_
 simp only[Tryz.f134,Option.getD]
 obtain⟨h1,h2⟩:=hr
 have hh:=zei r.session 0
 repeat'(first|refine zq0 ?_|exact zd0|refine zc (hh) ?_|refine zg (hh) ?_|(refine zaa ?_ ?_<;>intro hb)|(refine And.intro ?_ ?_;exact zI)|(refine And.intro ?_ ?_<;>intro hg)|exact zC|fail)
 ·rw[zia,show zsU r=true from hb];rfl
 ·have hs:zbL r=zby (zcy r.held) 0 r.held:=by rw[zia,show zsU r=false from hb];rfl
  rw[hs]
  clear hb
  refine zam (τ:=Nat) (fun i=>⟨[dd, .one (.ptr ⟨1,0,1⟩ 0),dd,ai i,dd,dd,dd,dd,dd,dd,dd,dd,dd,dd,dd,dd,dd,dd,dd,dd,dd,dd,dd,dd,dd,dd,dd,dd,dd,dd,dd,dd,dd,dd,dd,dd,dd,dd,dd,dd,dd,dd,dd,dd,dd,dd,dd,dd,dd,dd,dd,dd,dd,dd,dd,dd,dd,dd,dd,dd,dd,dd,dd,dd,dd,dd,dd,dd,dd,dd,dd,dd,dd,dd,dd,dd,dd,dd,dd,dd,dd,dd,dd,dd],[(1,{next:=2,l:=[some {e:=1,var:=true,fz:=false,sz:=0,cells:=[di r.code,di r.session,di r.ahead, .lent r.held.length (zaG r.held)]},none,none,none,none]}),(4,⟨2,[]⟩)]⟩)
   (fun i=>i≤r.held.length) (fun i=>zby (zcy r.held) i (r.held.drop i)) (fun i=>r.held.length - i) 0
   (Gh.canon [1] [4] [] zK rfl rfl) (Nat.zero_le _) ?_
  intro i hi0 hF K hK
  rw[List.drop_zero]at hF
  refine zw ?_
  refine zaa (fun hlt=> ?_) (fun hge=> ?_)
  ·have hi:i<r.held.length:=by simpa using hlt
   have hat:=zcb hi
   have hw:=zaq hi (by omega)
   rw[zaO hi]at hF
   have hnm:=zkk r.held[i].name (h2 _ (List.getElem_mem hi))
   have hhg:=zei r.held[i].token 1
   have hH:(decide (r.held[i].token≥1)&&decide (r.held[i].token≤2305843009213693952))= !(decide (r.held[i].token<1)||decide (r.held[i].token>zbB)):=by
    have hH:zbB=2305843009213693952:=rfl
    rw[Bool.eq_iff_iff];simp[hH]
   cases e0:decide ((i:Int)>0)
   ·have h0:i=0:=by simpa using e0
    have hq:zcy r.held i r.held[i]= !(!nameP r.held[i].name|| !(decide (r.held[i].token≥1)&&decide (r.held[i].token≤2305843009213693952))):=by
     unfold zcy
     have:decide (i>0)=false:=by simpa using e0
     rw[this,Bool.false_and,Bool.or_false,hH,Bool.not_not,Bool.or_assoc]
    have hp:(zaG r.held).drop ((IntKind.i64.wrap ((i:Int) - 1)).toNat*2)=r.held[i].enc++zaG (r.held.drop (i+1)):=by
     rw[←zcb hi,h0];rfl
    repeat'(first|refine zq (I hat (I hp (I e0 (I @zay zca)))) ?_|exact zd (I hat (I hp (I e0 (I @zay zca))))|refine zc (hnm) ?_|refine zg (hnm) ?_|refine zc (hhg) ?_|refine zg (hhg) ?_|(refine zaa ?_ ?_<;>intro hb)|(refine And.intro ?_ ?_;exact zI)|(refine And.intro ?_ ?_<;>intro hg)|exact zC|fail)
    ·rw[hq,hb,if_neg (by simp)]at hF
     rw[←hF]
    ·exact hK _ (i+1) (Gh.canon [1] [] [] (zk hw) rfl rfl) hi (by rw[zaO hi,hq,hb];rfl) (by omega)
   ·have h0:0<i:=by simpa using e0
    have hq:zcy r.held i r.held[i]= !(!nameP r.held[i].name|| !(decide (r.held[i].token≥1)&&decide (r.held[i].token≤2305843009213693952))||(Go.Op.bytesLess r.held[i].name.toList (r.held[i - 1]'(by omega)).name.toList||r.held[i].name.toList==(r.held[i - 1]'(by omega)).name.toList)):=by
     rw[zv7]
     unfold zcy zsK
     have:decide (i>0)=true:=by simpa using e0
     rw[this,List.getElem?_eq_getElem (by omega),hH,Bool.not_not]
     simp only[Bool.true_and,Option.map_some,Option.getD_some,Bool.or_assoc]
    have hp:=zcb (show i - 1<r.held.length by omega)
    have hw1:IntKind.i64.wrap ((i:Int) - 1)=((i - 1:Nat):Int):=by rw[wrap64 (by omega) (by omega)];omega
    repeat'(first|refine zq (I hat (I hp (I hw1 (I e0 (I @zay zca))))) ?_|exact zd (I hat (I hp (I hw1 (I e0 (I @zay zca)))))|refine zc (hnm) ?_|refine zg (hnm) ?_|refine zc (hhg) ?_|refine zg (hhg) ?_|(refine zaa ?_ ?_<;>intro hb)|(refine And.intro ?_ ?_;exact zI)|(refine And.intro ?_ ?_<;>intro hg)|exact zC|fail)
    ·rw[hq,hb,if_neg (by simp)]at hF
     rw[←hF]
    ·exact hK _ (i+1) (Gh.canon [1] [] [] (zk hw) rfl rfl) hi (by rw[zaO hi,hq,hb];rfl) (by omega)
  ·have hi:i=r.held.length:=by
    have:¬(i:Int)<r.held.length:=by simpa using hge
    omega
   rw[zdo hi]at hF
   rw[←hF]
   repeat'(first|refine zq0 ?_|exact zd0|(refine zaa ?_ ?_<;>intro hb)|(refine And.intro ?_ ?_;exact zI)|(refine And.intro ?_ ?_<;>intro hg)|exact zC|fail)
theorem zkl (m:Memo) (hr:zcd m.reply):CallOK Tryz.prog 82 [.f (.agg m.lent)] (fun x o=>x=[rb (answerB m)]∧o=[]):=by
 refine zac zas mixed (T:=Ty) (n:=21) Tryz.func82 (c:=Tryz.f82.body.getD .skip) rfl Tryz.results82 Tryz.ntmps82 Tryz.call82 ?_
 simp only[Tryz.f82,Option.getD]
 have hh:=zei m.seq 1
 repeat'(first|refine zq0 ?_|exact zd0|refine zc (hh) ?_|refine zg (hh) ?_|refine zc (zg4 m.reply hr) ?_|refine zg (zg4 m.reply hr) ?_|(refine zaa ?_ ?_<;>intro hb)|(refine And.intro ?_ ?_;exact zI)|(refine And.intro ?_ ?_<;>intro hg)|exact zC|fail)
 simp[answerB,Bool.and_assoc]
end Go.Proofs.YtbpmcjeeeiffhaaGreat
