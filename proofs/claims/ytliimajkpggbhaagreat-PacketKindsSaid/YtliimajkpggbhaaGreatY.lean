import Derived.Test.YtliimajkpggbhaaGreatVD
namespace Go.Proofs.YtliimajkpggbhaaGreat
open Go.Pk
set_option maxRecDepth 100000
set_option linter.unusedSimpArgs false
set_option linter.unusedVariables false
theorem zg0 {s:St} (hr:RightS s):∀k∈s.locks,k.line.Nodup:=fun k hk=>zo9 (hr.lok k hk).2.2.1
set_option maxHeartbeats 2000000 in
theorem zo8 (s:St) (h:Small s) (hr:RightS s) (time lease:Int):CallOK Tryz.prog 158 [.f (zyR s), .f (ai time), .f (ai lease)]
  (fun r o=>r=[stRF (zcJ s time lease)]∧o=[]):=by
 refine zh Tryz.func158 Tryz.results158 Tryz.ntmps158 Tryz.call158 ?_
 simp only[Tryz.f158,Option.getD]
 have h':Small {s with time:=ze6 s time}:=⟨h.sess,h.locks,h.memos,h.line,h.held⟩
 have htm:0≤ze6 s time∧ze6 s time≤zbx:=by
  have:=hr.time
  unfold ze6
  split
  ·rename_i hc
   simp only[Bool.and_eq_true,decide_eq_true_eq]at hc
   omega
  ·exact this
 have hdu:=zy5 s.sess h.sess (ze6 s time) (max lease 1) (fun x hx=>(zct.1 (hr.sok x hx).1).2.2) htm
 have hwo:=znZ {s with time:=ze6 s time} h' hr.ls (fun k hk=>zg0 hr k hk) hr.token (zwa s.sess (ze6 s time) (max lease 1)) (small_len h _ _)
 have hav:zcJ s time lease=zbL {s with time:=ze6 s time} (zwa s.sess (ze6 s time) (max lease 1)):=rfl
 rw[hav]
 cases ha:decide (time>s.time)&&decide (time≤2305843009213693952)
 ·have htp:ze6 s time=s.time:=by unfold ze6;rw[show(decide (time>s.time)&&decide (time≤zbx))=false from ha];rfl
  rw[htp]at hdu hwo⊢
  refine zL (I ha @rowI.eq_1) (I (hdu) (hwo)) ?_
  rfl
 ·have htp:ze6 s time=time:=by unfold ze6;rw[show(decide (time>s.time)&&decide (time≤zbx))=true from ha];rfl
  rw[htp]at hdu hwo⊢
  refine zL (I ha @rowI.eq_1) (I (hdu) (hwo)) ?_
  rfl
theorem zms (s:St) (h:Small s) (c code ahead:Int):CallOK Tryz.prog 208 [.f (zyR s), .f (ai c), .f (ai code), .f (ai ahead)]
  (fun r o=>r=[replyRF ⟨code,((zaS s.sess c).getD zhO).num,ahead,zch s.locks c⟩]∧o=[]):=by
 refine zh Tryz.func208 Tryz.results208 Tryz.ntmps208 Tryz.call208 ?_
 simp only[Tryz.f208,Option.getD]
 have hfi:=zfk s.sess (by have:=h.sess;omega) c
 have hhe:=zwl s.locks h.locks c
 refine zL trivial (I (hfi) (hhe)) ?_
 rfl
theorem zlA {s:St} (hr:RightS s) {c:Int} (hc:isClient c=true) (hf:zaS s.sess c=none) (he:((zd3 s.sess c (s.num+1) s.time).2 !=0)=false):
  (zd3 s.sess c (s.num+1) s.time).1.length≤s.sess.length+1∧((zaS (zd3 s.sess c (s.num+1) s.time).1 c).getD zhO).num=s.num+1:=by
 by_cases hN:s.num+1≤zbx
 ·rw[zqj hr hc hN hf]at he⊢
  split at he
  ·cases he
  ·rename_i h5
   rw[if_neg h5]
   refine⟨?_, ?_⟩
   ·simp only[List.length_append,List.length_cons,List.length_take,List.length_drop];omega
   ·have h1:(s.sess.take (ziC s.sess c)).find? (fun x=>x.client==c)=none:=List.find?_eq_none.2 fun x hx=>List.find?_eq_none.1 hf x (List.mem_of_mem_take hx)
    simp only[zaS,List.find?_append,h1,Option.none_or,List.find?_cons,beq_self_eq_true,Option.getD_some]
 ·exfalso
  have:zd3 s.sess c (s.num+1) s.time=([],1):=by
   unfold zd3
   rw[if_pos (by simp only[Bool.or_eq_true,decide_eq_true_eq];omega)]
  rw[this]at he
  cases he
set_option maxHeartbeats 2000000 in
theorem zt1 (s:St) (h:Small s) (hr:RightS s) (c:Int) (hc:isClient c=true):CallOK Tryz.prog 205 [.f (zyR s), .f (ai c)]
  (fun r o=>r=[stRF (zc4 s c).1,replyRF (zc4 s c).2]∧o=[]):=by
 refine CallOK.nil ?_
 refine zh Tryz.func205 Tryz.results205 Tryz.ntmps205 Tryz.call205 ?_
 simp only[Tryz.f205,Option.getD]
 have hfi:=zfk s.sess (by have:=h.sess;omega) c
 have hn:=hr.num
 have hH:zbx=2^61:=by decide
 have hw:IntKind.i64.wrap (s.num+1)=s.num+1:=wrap64 (by omega) (by omega)
 cases hf:zaS s.sess c with
 |some x=>
  have hto:=zms s h c 7 0
  rw[hf]at hfi hto
  simp only[Option.isSome_some,Option.getD_some]at hfi hto
  have ho:zc4 s c=(s,⟨7,x.num,0,zch s.locks c⟩):=by unfold zc4;rw[hf]
  rw[ho]
  repeat'(first|exact zC|refine zq0 ?_|refine zx (hfi) ?_|refine zx (hto) ?_|(apply zaa<;>intro hb)|(apply I;exact zI)|(apply I<;>intro hg))
  simp[zaL,zcv,zaR,zax]
 |none=>
  rw[hf]at hfi
  simp only[Option.isSome_none,Option.getD_none]at hfi
  have hop:=zwk s.sess hr.ss h.sess c (s.num+1) s.time hc (by omega) hr.time hf (zhG hr)
  have ho:zc4 s c=if((zd3 s.sess c (s.num+1) s.time).2 !=0)=true then(s,⟨(zd3 s.sess c (s.num+1) s.time).2,0,0,[]⟩)else
    ({s with sess:=(zd3 s.sess c (s.num+1) s.time).1,num:=s.num+1},⟨0,s.num+1,0,zch s.locks c⟩):=by unfold zc4;rw[hf];simp only[bne_iff_ne]
  cases he:(zd3 s.sess c (s.num+1) s.time).2 !=0
  ·rw[he,if_neg (by simp)]at ho
   rw[ho]
   have hsm:Small {s with sess:=(zd3 s.sess c (s.num+1) s.time).1,num:=s.num+1}:=⟨by have:=(zlA hr hc hf he).1;have:=hr.sl;simp only;omega,h.locks,h.memos,h.line,h.held⟩
   have hto:=zms {s with sess:=(zd3 s.sess c (s.num+1) s.time).1,num:=s.num+1} hsm c 0 0
   have hfo:((zaS (zd3 s.sess c (s.num+1) s.time).1 c).getD zhO).num=s.num+1:=(zlA hr hc hf he).2
   simp only[hfo]at hto
   repeat'(first|exact zC|(with_reducible first|refine zbh 8 ?_|refine zaU 8 ?_|refine zaV 8 ?_)|refine zu (I hw he) ?_|(with_reducible first|refine zae _ _ ?_)|refine zx (hfi) ?_|refine zx (hop) ?_|(apply zaa<;>intro hb)|(apply I;exact zI)|(apply I<;>intro hg))
   refine zbl (zbk (Gh.sealF 2 3 (.own ⟨2,4,7⟩ 0 (zd3 s.sess c (s.num+1) s.time).1.length) ?_) ?_)
   ·exact zo0
   refine zf0 ?_
   repeat'(first|exact zC|refine zq hw ?_|refine zx (hto) ?_|(apply zaa<;>intro hb)|(apply I;exact zI)|(apply I<;>intro hg))
   simp[zaL,zcv,zaR,zax]
  ·rw[he,if_pos rfl]at ho
   rw[ho]
   repeat'(first|exact zC|refine zq (I hw he) ?_|refine zx (hfi) ?_|refine zx (hop) ?_|(apply zaa<;>intro hb)|(apply I;exact zI)|(apply I<;>intro hg))
   simp[zaL,zcv,zaR,zax]
theorem zrx {s:St} (hr:RightS s) {c:Int} {x:Sess} (hf:zaS s.sess c=some x):((zaS (zcP s.sess c s.time).1 c).getD zhO).num=x.num∧(zcP s.sess c s.time).1.length=s.sess.length:=by
 rw[zhH hr hf]
 refine⟨?_,by simp only[List.length_set]⟩
 simp only
 rw[←zn0 hr.ss hf]
 unfold zaS
 rw[List.find?_map,show((fun y:Sess=>y.client==c)∘zdK c s.time)=fun y:Sess=>y.client==c from by funext y;simp only[Function.comp,zdK];split<;>rfl]
 rw[show s.sess.find? (fun y:Sess=>y.client==c)=some x from hf]
 simp only[Option.map_some,Option.getD_some,zdK]
 split<;>rfl
theorem zry {l:List Lk} {name:ByteArray} {c t:Int} {w:Bool} (hl:∀k∈l,k.line.length<2^30∧k.name.size<2^62) (hs:SL l) (hll:∀k∈l,k.line.length≤3) (hn:name.size<2^62):
  ∀k∈(za5 l name c t w).1,k.line.length<2^30∧k.name.size<2^62:=by
 intro k hk
 unfold za5 at hk
 cases hf:zdU l name with
 |none=>
  rw[hf]at hk
  simp only at hk
  split at hk
  ·cases hk
  ·rcases List.mem_append.1 hk with hk|hk
   ·exact hl k (List.mem_of_mem_take hk)
   ·rcases List.mem_cons.1 hk with rfl|hk
    ·exact⟨by simp,hn⟩
    ·exact hl k (List.mem_of_mem_drop hk)
 |some k0=>
  rw[hf]at hk
  simp only at hk
  obtain⟨⟨hi,he⟩,_⟩:=zd4 hs hf
  have hk0:=hl k0 (he▸List.getElem_mem hi)
  have hk3:=hll k0 (he▸List.getElem_mem hi)
  split at hk
  ·cases hk
  ·split at hk
   ·cases hk
   ·split at hk
    ·exact hl k hk
    ·split at hk
     ·cases hk
     ·rcases List.mem_or_eq_of_mem_set hk with hk|rfl
      ·exact hl k hk
      ·refine⟨?_,hk0.2⟩
       simp only
       unfold zj3
       repeat' split
       all_goals simp
       all_goals omega
theorem zrz {l:List Lk} {name:ByteArray} {c t:Int} (hl:∀k∈l,k.line.length<2^30∧k.name.size<2^62) (hs:SL l):
  ∀k∈(zb4 l name c t).1,k.line.length<2^30∧k.name.size<2^62:=by
 intro k hk
 unfold zb4 at hk
 cases hf:zdU l name with
 |none=>rw[hf]at hk;cases hk
 |some k0=>
  rw[hf]at hk
  simp only at hk
  obtain⟨⟨hi,he⟩,_⟩:=zd4 hs hf
  have hk0:=hl k0 (he▸List.getElem_mem hi)
  split at hk
  ·unfold zgW at hk
   split at hk
   ·exact hl k (List.mem_of_mem_eraseIdx hk)
   ·rename_i hline
    rcases List.mem_or_eq_of_mem_set hk with hk|rfl
    ·exact hl k hk
    ·refine⟨?_,hk0.2⟩
     have:=hk0.1
     rw[hline,List.length_cons]at this
     simp only;omega
  ·split at hk
   ·rcases List.mem_or_eq_of_mem_set hk with hk|rfl
    ·exact hl k hk
    ·refine⟨?_,hk0.2⟩
     simp only
     unfold zhM
     split
     ·exact hk0.1
     ·exact Nat.lt_of_le_of_lt (List.length_eraseIdx_le ..) hk0.1
   ·cases hk
theorem zrw {l:List Lk} {name:ByteArray} {c t:Int} {w:Bool} (h:((za5 l name c t w).2.2==10)=false):(za5 l name c t w).2.1=0:=by
 revert h
 unfold za5
 cases zdU l name with
 |none=>simp only;split<;>intros<;>rfl
 |some k=>
  simp only
  repeat' split
  all_goals first|(intros;rfl)|(intro h;cases h)
set_option maxHeartbeats 8000000 in
theorem zwi (s:St) (h:Small s) (hr:RightS s) (r:Req) (hro:r.ok) (hm:Req.may r=true):CallOK Tryz.prog 190 [.f (zyR s), .f (.agg (r.enc.map C.d))]
  (fun x o=>x=[stRF (zbB s r).1,replyRF (zbB s r).2]∧o=[]):=by
 refine CallOK.nil ?_
 refine zh Tryz.func190 Tryz.results190 Tryz.ntmps190 Tryz.call190 ?_
 simp only[Tryz.f190,Option.getD]
 obtain⟨hc,_,hnm⟩:=zmj hm
 have hfi:=zfk s.sess (by have:=h.sess;omega) r.client
 have hT:=hr.token
 have hH:zbx=2^61:=by decide
 have hll:∀k∈s.locks,k.line.length<2^30:=fun k hk=>(h.line k hk).1
 have hl3:∀k∈s.locks,k.line.length≤3:=fun k hk=>(zbY.1 (hr.lok k hk).2.2.1).1
 have hlf:∀k∈s.locks,k.line.length<2^30∧k.line.Nodup:=fun k hk=>⟨hll k hk,zg0 hr k hk⟩
 cases h1:r.kind==1
 ·cases hf:zaS s.sess r.client with
  |none=>
   rw[hf]at hfi
   simp only[Option.isSome_none,Option.getD_none]at hfi
   have hd:zbB s r=(s,⟨9,0,0,[]⟩):=by unfold zbB;rw[if_neg (by rw[h1];simp),hf]
   rw[hd]
   repeat'(first|exact zC|refine zq h1 ?_|refine zx (hfi) ?_|(apply zaa<;>intro hb)|(apply I;exact zI)|(apply I<;>intro hg))
   all_goals simp[zaL,zcv,zaR,zax]
  |some x=>
   rw[hf]at hfi
   simp only[Option.isSome_some,Option.getD_some]at hfi
   cases hx:x.num !=r.session
   ·have hrn:=zt5 s.sess hr.ss h.sess r.client s.time hr.time (by rw[hf];rfl)
    have hwt:IntKind.i64.wrap (s.token+1)=s.token+1:=wrap64 (by omega) (by omega)
    obtain⟨hrf,hrl⟩:=zrx hr hf
    obtain⟨S1,hS1⟩:∃S1,S1=(zcP s.sess r.client s.time).1:=⟨_,rfl⟩
    rw[←hS1]at hrf hrl
    have hsm:∀(t:Int) (L:List Lk),L.length<2^30→(∀k∈L,k.line.length<2^30∧k.name.size<2^62)→Small ⟨s.time,s.num,t,S1,L,s.memos⟩:=fun t L h1 h2=>⟨by simp only;have:=h.sess;omega,h1,h.memos,h2,h.held⟩
    have hto:∀(t:Int) (L:List Lk) (code ahead:Int),L.length<2^30→(∀k∈L,k.line.length<2^30∧k.name.size<2^62)→CallOK Tryz.prog 208 [.f (zyR ⟨s.time,s.num,t,S1,L,s.memos⟩), .f (ai r.client), .f (ai code), .f (ai ahead)]
      (fun y o=>y=[replyRF ⟨code,x.num,ahead,zch L r.client⟩]∧o=[]):=fun t L code ahead h1 h2=>by
     have:=zms ⟨s.time,s.num,t,S1,L,s.memos⟩ (hsm t L h1 h2) r.client code ahead
     simp only[hrf]at this
     exact this
    have hd0:zbB s r=if(r.kind==3||r.kind==4)=true then
      (if((za5 s.locks r.name r.client s.token (r.kind==3)).2.2==0)=true then(⟨s.time,s.num,s.token+1,S1,(za5 s.locks r.name r.client s.token (r.kind==3)).1,s.memos⟩,⟨(za5 s.locks r.name r.client s.token (r.kind==3)).2.2,x.num,0,zch (za5 s.locks r.name r.client s.token (r.kind==3)).1 r.client⟩)
      else if((za5 s.locks r.name r.client s.token (r.kind==3)).2.2==10)=true then(⟨s.time,s.num,s.token,S1,(za5 s.locks r.name r.client s.token (r.kind==3)).1,s.memos⟩,⟨(za5 s.locks r.name r.client s.token (r.kind==3)).2.2,x.num,(za5 s.locks r.name r.client s.token (r.kind==3)).2.1,zch (za5 s.locks r.name r.client s.token (r.kind==3)).1 r.client⟩)
      else(⟨s.time,s.num,s.token,S1,s.locks,s.memos⟩,⟨(za5 s.locks r.name r.client s.token (r.kind==3)).2.2,x.num,0,zch s.locks r.client⟩))
     else if(r.kind==5)=true then
      (if((zb4 s.locks r.name r.client s.token).2.2==0)=true then(⟨s.time,s.num,s.token+(zb4 s.locks r.name r.client s.token).2.1,S1,(zb4 s.locks r.name r.client s.token).1,s.memos⟩,⟨(zb4 s.locks r.name r.client s.token).2.2,x.num,0,zch (zb4 s.locks r.name r.client s.token).1 r.client⟩)
      else(⟨s.time,s.num,s.token,S1,s.locks,s.memos⟩,⟨(zb4 s.locks r.name r.client s.token).2.2,x.num,0,zch s.locks r.client⟩))
     else if(r.kind==6)=true then(zbL ⟨s.time,s.num,s.token,S1,s.locks,s.memos⟩ [r.client],⟨0,0,0,[]⟩)
     else(⟨s.time,s.num,s.token,S1,s.locks,s.memos⟩,⟨0,x.num,0,zch s.locks r.client⟩):=by
     rw[hS1]
     unfold zbB
     rw[if_neg (by rw[h1];simp),hf]
     simp only
     rw[if_neg (by rw[hx];simp)]
     split
     ·by_cases e0:(za5 s.locks r.name r.client s.token (r.kind==3)).2.2=0
      ·rw[if_pos e0,if_neg (by rw[e0];decide),if_pos (by simpa using e0)]
      ·by_cases e10:(za5 s.locks r.name r.client s.token (r.kind==3)).2.2=10
       ·rw[if_neg e0,if_pos e10,if_pos e10,if_neg (by simpa using e0),if_pos (by simpa using e10)]
       ·rw[if_neg e0,if_neg e10,if_neg e10,if_neg (by simpa using e0),if_neg (by simpa using e10)]
     ·split
      ·by_cases e0:(zb4 s.locks r.name r.client s.token).2.2=0
       ·rw[if_pos e0,if_pos (by simpa using e0)]
       ·rw[if_neg e0,if_neg (by simpa using e0)]
      ·rfl
    rw[←hS1]at hrn
    have htl:=ztC s.locks r.name r.client s.token (r.kind==3)
    have hfl:=ztD s.locks r.name r.client s.token
    have hnl:=hr.ll
    have htn:=zry (name:=r.name) (c:=r.client) (t:=s.token) (w:=r.kind==3) h.line hr.ls hl3 hro.2.2.2.2
    have hfn:=zrz (name:=r.name) (c:=r.client) (t:=s.token) h.line hr.ls
    have hta:=zwo s.locks hr.ls h.locks hll r.name r.client s.token (by omega) hc (r.kind==3)
    have hfr:=zqt s.locks hr.ls h.locks hlf r.name r.client s.token (by omega)
    have htz:=zrw (l:=s.locks) (name:=r.name) (c:=r.client) (t:=s.token) (w:=r.kind==3)
    cases h3:r.kind==3
    ·rw[h3]at hta htl htn htz
     rw[h3,Bool.false_or]at hd0
     cases h4:r.kind==4
     ·rw[h4,if_neg (by simp)]at hd0
      cases h5:r.kind==5
      ·rw[h5,if_neg (by simp)]at hd0
       cases h6:r.kind==6
       ·rw[h6,if_neg (by simp)]at hd0
        rw[hd0]
        have ht1:=hto s.token s.locks 0 0 h.locks h.line
        repeat'(first|exact zC|(with_reducible first|refine zbh 8 ?_|refine zaU 8 ?_|refine zaV 8 ?_)|refine zu (I h1 (I hx (I h3 (I h4 (I h5 h6))))) ?_|(with_reducible first|refine zae _ _ ?_)|refine zx (hfi) ?_|refine zx (hrn) ?_|(apply zaa<;>intro hb)|(apply I;exact zI)|(apply I<;>intro hg))
        refine zbl (zbk (Gh.sealF 2 3 (.own ⟨2,4,7⟩ 0 S1.length) ?_) ?_)
        ·exact zo0
        refine zf0 ?_
        repeat'(first|exact zC|refine zq (I h1 (I hx (I h3 (I h4 (I h5 h6))))) ?_|refine zx (ht1) ?_|(apply zaa<;>intro hb)|(apply I;exact zI)|(apply I<;>intro hg))
        simp[zaL,zcv,zaR,zax]
       ·rw[h6,if_pos rfl]at hd0
        rw[hd0]
        have hwo:=znZ ⟨s.time,s.num,s.token,S1,s.locks,s.memos⟩ (hsm s.token s.locks h.locks h.line) hr.ls (fun k hk=>zg0 hr k hk) hr.token [r.client] (by simp)
        repeat'(first|exact zC|(with_reducible first|refine zbh 8 ?_|refine zaU 8 ?_|refine zaV 8 ?_)|refine zu (I h1 (I hx (I h3 (I h4 (I h5 h6))))) ?_|(with_reducible first|refine zae _ _ ?_)|refine zx (hfi) ?_|refine zx (hrn) ?_|(apply zaa<;>intro hb)|(apply I;exact zI)|(apply I<;>intro hg))
        refine zbl (zbk (Gh.sealF 2 3 (.own ⟨2,4,7⟩ 0 S1.length) ?_) ?_)
        ·exact zo0
        refine zf0 ?_
        repeat'(first|exact zC|refine zq (I h1 (I hx (I h3 (I h4 (I h5 h6))))) ?_|refine zx (hwo) ?_|(apply zaa<;>intro hb)|(apply I;exact zI)|(apply I<;>intro hg))
        simp[zaL,zcv,zaR,zax]
      ·rw[h5,if_pos rfl]at hd0
       have hgi:=ztE s.locks r.name r.client s.token
       generalize hT0:zb4 s.locks r.name r.client s.token=T at*
       cases e0:T.2.2==0
       ·rw[e0,if_neg (by simp)]at hd0
        rw[hd0]
        have ht1:=hto s.token s.locks T.2.2 0 h.locks h.line
        repeat'(first|exact zC|(with_reducible first|refine zbh 8 ?_|refine zaU 8 ?_|refine zaV 8 ?_)|refine zu (I h1 (I hx (I h3 (I h4 (I h5 e0))))) ?_|(with_reducible first|refine zae _ _ ?_)|refine zx (hfi) ?_|refine zx (hrn) ?_|(apply zaa<;>intro hb)|(apply I;exact zI)|(apply I<;>intro hg))
        refine zbl (zbk (Gh.sealF 2 3 (.own ⟨2,4,7⟩ 0 S1.length) ?_) ?_)
        ·exact zo0
        refine zf0 ?_
        repeat'(first|exact zC|refine zq (I h1 (I hx (I h3 (I h4 (I h5 e0))))) ?_|refine zx (hfr) ?_|refine zx (ht1) ?_|(apply zaa<;>intro hb)|(apply I;exact zI)|(apply I<;>intro hg))
        simp[zaL,zcv,zaR,zax]
       ·rw[e0,if_pos rfl]at hd0
        have hwf:IntKind.i64.wrap (s.token+T.2.1)=s.token+T.2.1:=wrap64 (by omega) (by omega)
        rw[hd0]
        have ht1:=hto (s.token+T.2.1) T.1 T.2.2 0 (by omega) hfn
        repeat'(first|exact zC|(with_reducible first|refine zbh 8 ?_|refine zaU 8 ?_|refine zaV 8 ?_)|refine zu (I h1 (I hx (I h3 (I h4 (I h5 e0))))) ?_|(with_reducible first|refine zae _ _ ?_)|refine zx (hfi) ?_|refine zx (hrn) ?_|(apply zaa<;>intro hb)|(apply I;exact zI)|(apply I<;>intro hg))
        refine zbl (zbk (Gh.sealF 2 3 (.own ⟨2,4,7⟩ 0 S1.length) ?_) ?_)
        ·exact zo0
        refine zf0 ?_
        repeat'(first|exact zC|(with_reducible first|refine zbh 22 ?_|refine zaU 22 ?_|refine zaV 22 ?_)|refine zu (I h1 (I hx (I h3 (I h4 (I h5 (I e0 hwf)))))) ?_|(with_reducible first|refine zae _ _ ?_)|refine zx (hfr) ?_|(apply zaa<;>intro hb)|(apply I;exact zI)|(apply I<;>intro hg))
        refine zbl (zbk (Gh.sealF 2 4 (.own ⟨2,5,8⟩ 0 T.1.length) ?_) ?_)
        ·exact zo0
        refine zf0 ?_
        repeat'(first|exact zC|refine zq (I h1 (I hx (I h3 (I h4 (I h5 (I e0 hwf)))))) ?_|refine zx (ht1) ?_|(apply zaa<;>intro hb)|(apply I;exact zI)|(apply I<;>intro hg))
        simp[zaL,zcv,zaR,zax]
     ·rw[h4,if_pos rfl]at hd0
      generalize hT0:za5 s.locks r.name r.client s.token false=T at*
      cases e0:T.2.2==0
      ·cases e10:T.2.2==10
       ·rw[e0,if_neg (by simp),e10,if_neg (by simp)]at hd0
        rw[hd0]
        have ht1:=hto s.token s.locks T.2.2 0 h.locks h.line
        have hz:=htz e10
        rw[hz]at hta
        repeat'(first|exact zC|(with_reducible first|refine zbh 8 ?_|refine zaU 8 ?_|refine zaV 8 ?_)|refine zu (I h1 (I hx (I h3 (I h4 (I e0 e10))))) ?_|(with_reducible first|refine zae _ _ ?_)|refine zx (hfi) ?_|refine zx (hrn) ?_|(apply zaa<;>intro hb)|(apply I;exact zI)|(apply I<;>intro hg))
        refine zbl (zbk (Gh.sealF 2 3 (.own ⟨2,4,7⟩ 0 S1.length) ?_) ?_)
        ·exact zo0
        refine zf0 ?_
        repeat'(first|exact zC|refine zq (I h1 (I hx (I h3 (I h4 (I e0 (I e10 hwt)))))) ?_|refine zx (hta) ?_|refine zx (ht1) ?_|(apply zaa<;>intro hb)|(apply I;exact zI)|(apply I<;>intro hg))
        simp[zaL,zcv,zaR,zax]
       ·rw[e0,if_neg (by simp),e10,if_pos rfl]at hd0
        rw[hd0]
        have ht1:=hto s.token T.1 T.2.2 T.2.1 (by omega) htn
        repeat'(first|exact zC|(with_reducible first|refine zbh 8 ?_|refine zaU 8 ?_|refine zaV 8 ?_)|refine zu (I h1 (I hx (I h3 (I h4 (I e0 e10))))) ?_|(with_reducible first|refine zae _ _ ?_)|refine zx (hfi) ?_|refine zx (hrn) ?_|(apply zaa<;>intro hb)|(apply I;exact zI)|(apply I<;>intro hg))
        refine zbl (zbk (Gh.sealF 2 3 (.own ⟨2,4,7⟩ 0 S1.length) ?_) ?_)
        ·exact zo0
        refine zf0 ?_
        repeat'(first|exact zC|(with_reducible first|refine zbh 16 ?_|refine zaU 16 ?_|refine zaV 16 ?_)|refine zu (I h1 (I hx (I h3 (I h4 (I e0 (I e10 hwt)))))) ?_|(with_reducible first|refine zae _ _ ?_)|refine zx (hta) ?_|(apply zaa<;>intro hb)|(apply I;exact zI)|(apply I<;>intro hg))
        refine zbl (zbk (Gh.sealF 2 4 (.own ⟨2,5,8⟩ 0 T.1.length) ?_) ?_)
        ·exact zo0
        refine zf0 ?_
        repeat'(first|exact zC|refine zq (I h1 (I hx (I h3 (I h4 (I e0 (I e10 hwt)))))) ?_|refine zx (ht1) ?_|(apply zaa<;>intro hb)|(apply I;exact zI)|(apply I<;>intro hg))
        simp[zaL,zcv,zaR,zax]
      ·rw[e0,if_pos rfl]at hd0
       rw[hd0]
       have ht1:=hto (s.token+1) T.1 T.2.2 0 (by omega) htn
       have hz:=htz (by have:T.2.2=0:=(by simpa using e0);rw[this];rfl)
       rw[hz]at hta
       repeat'(first|exact zC|(with_reducible first|refine zbh 8 ?_|refine zaU 8 ?_|refine zaV 8 ?_)|refine zu (I h1 (I hx (I h3 (I h4 e0)))) ?_|(with_reducible first|refine zae _ _ ?_)|refine zx (hfi) ?_|refine zx (hrn) ?_|(apply zaa<;>intro hb)|(apply I;exact zI)|(apply I<;>intro hg))
       refine zbl (zbk (Gh.sealF 2 3 (.own ⟨2,4,7⟩ 0 S1.length) ?_) ?_)
       ·exact zo0
       refine zf0 ?_
       repeat'(first|exact zC|(with_reducible first|refine zbh 16 ?_|refine zaU 16 ?_|refine zaV 16 ?_)|refine zu (I h1 (I hx (I h3 (I h4 (I e0 hwt))))) ?_|(with_reducible first|refine zae _ _ ?_)|refine zx (hta) ?_|(apply zaa<;>intro hb)|(apply I;exact zI)|(apply I<;>intro hg))
       refine zbl (zbk (Gh.sealF 2 4 (.own ⟨2,5,8⟩ 0 T.1.length) ?_) ?_)
       ·exact zo0
       refine zf0 ?_
       repeat'(first|exact zC|refine zq (I h1 (I hx (I h3 (I h4 (I e0 hwt))))) ?_|refine zx (ht1) ?_|(apply zaa<;>intro hb)|(apply I;exact zI)|(apply I<;>intro hg))
       simp[zaL,zcv,zaR,zax]
    ·rw[h3]at hta htl htn htz
     rw[h3,Bool.true_or,if_pos rfl]at hd0
     generalize hT0:za5 s.locks r.name r.client s.token true=T at*
     cases e0:T.2.2==0
     ·cases e10:T.2.2==10
      ·rw[e0,if_neg (by simp),e10,if_neg (by simp)]at hd0
       rw[hd0]
       have ht1:=hto s.token s.locks T.2.2 0 h.locks h.line
       have hz:=htz e10
       rw[hz]at hta
       repeat'(first|exact zC|(with_reducible first|refine zbh 8 ?_|refine zaU 8 ?_|refine zaV 8 ?_)|refine zu (I h1 (I hx (I h3 (I e0 e10)))) ?_|(with_reducible first|refine zae _ _ ?_)|refine zx (hfi) ?_|refine zx (hrn) ?_|(apply zaa<;>intro hb)|(apply I;exact zI)|(apply I<;>intro hg))
       refine zbl (zbk (Gh.sealF 2 3 (.own ⟨2,4,7⟩ 0 S1.length) ?_) ?_)
       ·exact zo0
       refine zf0 ?_
       repeat'(first|exact zC|refine zq (I h1 (I hx (I h3 (I e0 (I e10 hwt))))) ?_|refine zx (hta) ?_|refine zx (ht1) ?_|(apply zaa<;>intro hb)|(apply I;exact zI)|(apply I<;>intro hg))
       simp[zaL,zcv,zaR,zax]
      ·rw[e0,if_neg (by simp),e10,if_pos rfl]at hd0
       rw[hd0]
       have ht1:=hto s.token T.1 T.2.2 T.2.1 (by omega) htn
       repeat'(first|exact zC|(with_reducible first|refine zbh 8 ?_|refine zaU 8 ?_|refine zaV 8 ?_)|refine zu (I h1 (I hx (I h3 (I e0 e10)))) ?_|(with_reducible first|refine zae _ _ ?_)|refine zx (hfi) ?_|refine zx (hrn) ?_|(apply zaa<;>intro hb)|(apply I;exact zI)|(apply I<;>intro hg))
       refine zbl (zbk (Gh.sealF 2 3 (.own ⟨2,4,7⟩ 0 S1.length) ?_) ?_)
       ·exact zo0
       refine zf0 ?_
       repeat'(first|exact zC|(with_reducible first|refine zbh 16 ?_|refine zaU 16 ?_|refine zaV 16 ?_)|refine zu (I h1 (I hx (I h3 (I e0 (I e10 hwt))))) ?_|(with_reducible first|refine zae _ _ ?_)|refine zx (hta) ?_|(apply zaa<;>intro hb)|(apply I;exact zI)|(apply I<;>intro hg))
       refine zbl (zbk (Gh.sealF 2 4 (.own ⟨2,5,8⟩ 0 T.1.length) ?_) ?_)
       ·exact zo0
       refine zf0 ?_
       repeat'(first|exact zC|refine zq (I h1 (I hx (I h3 (I e0 (I e10 hwt))))) ?_|refine zx (ht1) ?_|(apply zaa<;>intro hb)|(apply I;exact zI)|(apply I<;>intro hg))
       simp[zaL,zcv,zaR,zax]
     ·rw[e0,if_pos rfl]at hd0
      rw[hd0]
      have ht1:=hto (s.token+1) T.1 T.2.2 0 (by omega) htn
      have hz:=htz (by have:T.2.2=0:=(by simpa using e0);rw[this];rfl)
      rw[hz]at hta
      repeat'(first|exact zC|(with_reducible first|refine zbh 8 ?_|refine zaU 8 ?_|refine zaV 8 ?_)|refine zu (I h1 (I hx (I h3 e0))) ?_|(with_reducible first|refine zae _ _ ?_)|refine zx (hfi) ?_|refine zx (hrn) ?_|(apply zaa<;>intro hb)|(apply I;exact zI)|(apply I<;>intro hg))
      refine zbl (zbk (Gh.sealF 2 3 (.own ⟨2,4,7⟩ 0 S1.length) ?_) ?_)
      ·exact zo0
      refine zf0 ?_
      repeat'(first|exact zC|(with_reducible first|refine zbh 16 ?_|refine zaU 16 ?_|refine zaV 16 ?_)|refine zu (I h1 (I hx (I h3 (I e0 hwt)))) ?_|(with_reducible first|refine zae _ _ ?_)|refine zx (hta) ?_|(apply zaa<;>intro hb)|(apply I;exact zI)|(apply I<;>intro hg))
      refine zbl (zbk (Gh.sealF 2 4 (.own ⟨2,5,8⟩ 0 T.1.length) ?_) ?_)
      ·exact zo0
      refine zf0 ?_
      repeat'(first|exact zC|refine zq (I h1 (I hx (I h3 (I e0 hwt)))) ?_|refine zx (ht1) ?_|(apply zaa<;>intro hb)|(apply I;exact zI)|(apply I<;>intro hg))
      simp[zaL,zcv,zaR,zax]
   ·have hd:zbB s r=(s,⟨9,0,0,[]⟩):=by unfold zbB;rw[if_neg (by rw[h1];simp),hf];simp only;rw[if_pos hx]
    rw[hd]
    repeat'(first|exact zC|refine zq (I h1 hx) ?_|refine zx (hfi) ?_|(apply zaa<;>intro hb)|(apply I;exact zI)|(apply I<;>intro hg))
    all_goals simp[zaL,zcv,zaR,zax]
 ·have hop:=zt1 s h hr r.client hc
  have hd:zbB s r=zc4 s r.client:=by unfold zbB;rw[if_pos h1]
  rw[hd]
  repeat'(first|exact zC|refine zq h1 ?_|refine zx (hfi) ?_|refine zx (hop) ?_|(apply zaa<;>intro hb)|(apply I;exact zI)|(apply I<;>intro hg))
  all_goals simp[zaL,zcv,zaR,zax]
def zau (n:Int):Prop:=0≤n∧n<256
theorem zdi {n:Int} (h:zau n):IntKind.i64.wrap n=n:=by have:=h;unfold zau at this;exact wrap64 (by omega) (by omega)
theorem zd2 {n:Int} (h:0≤n) (k:Int):n.tmod k=n % k:=Int.tmod_eq_emod_of_nonneg h
def zAo:List ByteArray:=[⟨#[97]⟩,⟨#[98]⟩,⟨#[99]⟩,⟨#[100]⟩,⟨#[107,101,121,45,49]⟩,⟨#[116,104,101,45,108,97,115,116,45,111,110,101]⟩]
def znO (n:Int):ByteArray:=(zAo[(n % 6).toNat]?).getD .empty
theorem six (n:Int):n % 6=0∨n % 6=1∨n % 6=2∨n % 6=3∨n % 6=4∨n % 6=5:=by omega
theorem ztx (n:Int) (hn:zau n):CallOK Tryz.prog 157 [.f (au n)] (fun r o=>r=[.one (.d (sD (znO n)))]∧o=[]):=by
 refine zh Tryz.func157 Tryz.results157 Tryz.ntmps157 Tryz.call157 ?_
 simp only[Tryz.f157,Option.getD]
 have hw:=zdi hn
 have ht:=zd2 hn.1 6
 unfold znO
 rcases six n with h|h|h|h|h|h
 all_goals
  rw[h]at ht⊢
  repeat'(first|(with_reducible first|refine zae _ _ ?_|refine zcj ?_|refine zck ?_)|rw[zbK]|simp only[hw,ht,Int.reduceToNat,List.drop_succ_cons,List.drop_zero,zY,Int.reduceEq,Int.reduceBEq,Int.reduceBNe,Nat.reduceSub,Nat.reduceEqDiff,Nat.reduceAdd,Nat.reduceMul,Nat.reduceLeDiff,Nat.reduceLT,Nat.reduceBEq,reduceCtorEq]|refine za8 ?_|refine zaa (fun hb=> ?_) (fun hb=> ?_)|(refine And.intro ?_ ?_;exact zI)|refine And.intro (fun hg=> ?_) (fun hg=> ?_)|exact zC|fail)
  rfl
def zkE (a:Int):Int:=1+a % 6
def zrl (a b:Int):Int:=if zkE a=1 then 0 else 1+b % 7
def zty (a c:Int):ByteArray:=if(zkE a==3||zkE a==4||zkE a==5)=true then znO c else .empty
theorem zyO (a b c:Int) (ha:zau a) (hb:zau b) (hc:zau c):CallOK Tryz.prog 108 [.f (au a), .f (au b), .f (au c)] (fun r o=>r=[.agg [.d (iD (zkE a)), .d (iD (zrl a b)), .d (sD (zty a c))]]∧o=[]):=by
 refine zh Tryz.func108 Tryz.results108 Tryz.ntmps108 Tryz.call108 ?_
 simp only[Tryz.f108,Option.getD]
 have hnm:=ztx c hc
 have hwa:=zdi ha
 have hwb:=zdi hb
 have hta:=zd2 ha.1 6
 have htb:=zd2 hb.1 7
 have hws:IntKind.i64.wrap (1+b % 7)=1+b % 7:=wrap64 (by omega) (by omega)
 unfold zty zrl zkE
 have w1:IntKind.i64.wrap 1=1:=rfl
 have w2:IntKind.i64.wrap 2=2:=rfl
 have w3:IntKind.i64.wrap 3=3:=rfl
 have w4:IntKind.i64.wrap 4=4:=rfl
 have w5:IntKind.i64.wrap 5=5:=rfl
 have w6:IntKind.i64.wrap 6=6:=rfl
 rcases six a with h|h|h|h|h|h
 all_goals
  rw[h]at hta⊢
  repeat'(first|(with_reducible first|refine zae _ _ ?_|refine zcj ?_|refine zck ?_)|rw[zbK]|simp only[hwa,hwb,hta,htb,hws,w1,w2,w3,w4,w5,w6,Int.reduceAdd,Int.reduceEq,Int.reduceBEq,zY,Int.reduceEq,Int.reduceBEq,Int.reduceBNe,Nat.reduceSub,Nat.reduceEqDiff,Nat.reduceAdd,Nat.reduceMul,Nat.reduceLeDiff,Nat.reduceLT,Nat.reduceBEq,reduceCtorEq]|((first|((try refine zaT ?_);apply za9)|(apply za7;intro _));(solve|exact(hnm)|(refine CallOK.le (hnm) ?_;exact zM)|fail);try case hn=>rfl)|refine za8 ?_|refine zaa (fun hb=> ?_) (fun hb=> ?_)|(refine And.intro ?_ ?_;exact zI)|refine And.intro (fun hg=> ?_) (fun hg=> ?_)|exact zC|fail)
structure Act where
 time:Int
 client:Int
 seq:Int
 kind:Int
 session:Int
 name:Int
abbrev Act.enc (a:Act):List D:=[uD a.time,uD a.client,uD a.seq,uD a.kind,uD a.session,uD a.name]
abbrev zkF (l:List Act):List D:=l.flatMap Act.enc
def zoW (a:Act):Prop:=zau a.time∧zau a.client∧zau a.seq∧zau a.kind∧zau a.session∧zau a.name
theorem zyP {l:List Act} {i:Nat} (hi:i<l.length):(zkF l).drop (i*6)=l[i].enc++(zkF (l.drop (i+1))):=zda _ 6 l i hi fun _=>rfl
theorem zv7 {l:List Act}:(zkF l).length=l.length*6:=zcM _ 6 (fun _=>rfl) l
def zAN (c q k s n:Int):Req:=⟨c % 8,1+q,zkE k,zrl k s,zty k n⟩
theorem zyQ (c q k s n:Int) (h1:zau c) (h2:zau q) (h3:zau k) (h4:zau s) (h5:zau n):CallOK Tryz.prog 58 [.f (au c), .f (au q), .f (au k), .f (au s), .f (au n)] (fun r o=>r=[.agg ((zAN c q k s n).enc.map RO.d)]∧o=[]):=by
 refine zh Tryz.func58 Tryz.results58 Tryz.ntmps58 Tryz.call58 ?_
 simp only[Tryz.f58,Option.getD]
 have hcm:=zyO k s n h3 h4 h5
 have hwc:=zdi h1
 have hwq:=zdi h2
 have htc:=zd2 h1.1 8
 have hq1:IntKind.i64.wrap (1+q)=1+q:=by unfold zau at h2;exact wrap64 (by omega) (by omega)
 refine zL (I hwc (I hwq (I htc hq1))) (hcm) ?_
 rfl
theorem zmi (l:List Memo) (hl:l.length<2^62) (c:Int):CallOK Tryz.prog 189 [.f (al l.length (zaZ l)), .f (ai c)]
  (fun r o=>r=[.agg (((zco l c).getD zgK).enc.map RO.d),rb (zco l c).isSome]∧o=[]):=by
 refine CallOK.nil ?_
 refine zh Tryz.func189 Tryz.results189 Tryz.ntmps189 Tryz.call189 ?_
 simp only[Tryz.f189,Option.getD]
 refine zL0 trivial ?_
 refine zai (τ:=Nat) (fun i=>⟨(al l.length (zaZ l)::ai c::dq2 (ptq 4::dd::ai i::zu6 [])),[(4,⟨2,[obq 1 [di 0,di 0,di 0,di 0,di 0, .d (.v (.slice none 0 0))],none,none,none,none,none,none]⟩)]⟩)
  (fun i=>i≤l.length) (fun i=>zco (l.drop i) c) (fun i=>l.length - i) 0
  (Gh.canon [4] [] [] zK rfl rfl) (Nat.zero_le _) ?_
 intro i hi0 hF K hK
 rw[List.drop_zero]at hF
 refine zw ?_
 refine zaa (fun hlt=> ?_) (fun hge=> ?_)
 ·have hi:i<l.length:=by simpa using hlt
  have hat:=zfc hi
  have hw:=zal hi hl
  have hq:zco (l.drop i) c=if(l[i].client==c)=true then some l[i]else zco (l.drop (i+1)) c:=by
   unfold zco
   rw[List.drop_eq_getElem_cons hi,List.find?_cons]
   cases l[i].client==c<;>rfl
  rw[hq]at hF
  repeat'(first|exact zC|refine zq (I hat (I @zaC zca)) ?_|(apply zaa<;>intro hb)|(apply I;exact zI)|(apply I<;>intro hg))
  ·rw[if_pos hb]at hF
   rw[←hF]
   simp[zaL,zcv,zaR,zax]
  ·rw[if_neg (by rw[hb];simp)]at hq
   exact hK _ (i+1) (Gh.canon [4] [] [] (zk hw) rfl rfl) hi hq.symm (by omega)
 ·have hi:i=l.length:=by
   have:¬(i:Int)<l.length:=by simpa using hge
   omega
  rw[hi,List.drop_length]at hF
  have hF:none=zco l c:=hF
  rw[←hF]
  repeat'(first|exact zC|refine zq0 ?_|(apply zaa<;>intro hb)|(apply I;exact zI)|(apply I<;>intro hg))
  simp[zaL,zcv,zaR,zax,zgK]
def zuQ (s:St) (a:Act):Req:=
 let r:=zAN a.client (a.seq % 6) a.kind a.session a.name
 let b1:=(zaS s.sess r.client).isSome&&decide (a.session % 8>0)&&(r.kind !=1)
 let b2:= !(zaS s.sess r.client).isSome&&decide (a.session % 4>0)
 ⟨r.client,if decide (a.seq % 5>0)=true then(if(zco s.memos r.client).isSome=true then((zco s.memos r.client).getD zgK).seq+1 else 1)else r.seq,
  if b2=true then 1 else r.kind,if b2=true then 0 else if b1=true then((zaS s.sess r.client).getD zhO).num else r.session,if b2=true then .empty else r.name⟩
set_option maxHeartbeats 4000000 in
theorem zrm (s:St) (h:Small s) (hr:RightS s) (a:Act) (ha:zoW a):CallOK Tryz.prog 160 [.f (.agg s.lent), .f (.agg (a.enc.map C.d))] (fun r o=>r=[.agg ((zuQ s a).enc.map RO.d)]∧o=[]):=by
 refine zh Tryz.func160 Tryz.results160 Tryz.ntmps160 Tryz.call160 ?_
 simp only[Tryz.f160,Option.getD]
 obtain⟨_,h1,h2,h3,h4,h5⟩:=ha
 have hrq:=zyQ a.client (a.seq % 6) a.kind a.session a.name h1 (by unfold zau;omega) h3 h4 h5
 generalize hN:zAN a.client (a.seq % 6) a.kind a.session a.name=r at*
 have hla:=zmi s.memos (by have:=h.memos;omega) r.client
 have hfi:=zfk s.sess (by have:=h.sess;omega) r.client
 have ht6:=zd2 h2.1 6
 have ht5:=zd2 h2.1 5
 have ht8:=zd2 h4.1 8
 have ht4:=zd2 h4.1 4
 have hwm:IntKind.i64.wrap (((zco s.memos r.client).getD zgK).seq+1)=((zco s.memos r.client).getD zgK).seq+1:=by
  have hb:0≤((zco s.memos r.client).getD zgK).seq∧((zco s.memos r.client).getD zgK).seq≤zbx:=by
   cases hf:zco s.memos r.client with
   |none=>decide
   |some m=>
    have:=(zdj (hr.mok m (List.mem_of_find?_eq_some hf))).2.1
    simp only[Option.getD_some];omega
  have hH:zbx=2305843009213693952:=rfl
  exact wrap64 (by omega) (by omega)
 have hR:zuQ s a=⟨r.client,if decide (a.seq % 5>0)=true then(if(zco s.memos r.client).isSome=true then((zco s.memos r.client).getD zgK).seq+1 else 1)else r.seq,
  if(!(zaS s.sess r.client).isSome&&decide (a.session % 4>0))=true then 1 else r.kind,if(!(zaS s.sess r.client).isSome&&decide (a.session % 4>0))=true then 0 else if((zaS s.sess r.client).isSome&&decide (a.session % 8>0)&&(r.kind !=1))=true then((zaS s.sess r.client).getD zhO).num else r.session,
  if(!(zaS s.sess r.client).isSome&&decide (a.session % 4>0))=true then .empty else r.name⟩:=by unfold zuQ;rw[hN]
 generalize zuQ s a=R at hR⊢
 repeat'(first|exact zC|refine zq (I ht6 (I ht5 (I ht8 (I ht4 hwm)))) ?_|refine zx (hrq) ?_|refine zx (hla) ?_|refine zx (hfi) ?_|(apply zaa<;>intro hb)|(apply I;exact zI)|(apply I<;>intro hg))
 all_goals clear hrq hla hfi ht6 ht5 ht8 ht4 hwm hN h hr h1 h2 h3 h4 h5
 all_goals subst hR
 all_goals simp only[*,if_true,Bool.false_eq_true,if_false]
theorem zfl (v a:Int):CallOK Tryz.prog 82 [.f (ai v), .f (ai a)] (fun r o=>r=[rb (decide (v≥a)&&decide (v≤2305843009213693952))]∧o=[]):=by
 refine zh Tryz.func82 Tryz.results82 Tryz.ntmps82 Tryz.call82 ?_
 simp only[Tryz.f82,Option.getD]
 exact zW0 trivial
theorem zmq (s:ByteArray) (hs:s.size<2^62):CallOK Tryz.prog 132 [.f (ast s)] (fun r o=>r=[rb (nameP s)]∧o=[]):=by
 refine zh Tryz.func132 Tryz.results132 Tryz.ntmps132 Tryz.call132 ?_
 simp only[Tryz.f132,Option.getD]
 refine zw ?_
 refine zaa (fun hb=> ?_) (fun hb=> ?_)
 ·refine zw ?_
  have:nameP s=false:=by
   unfold nameP
   rw[Bool.and_eq_false_iff];right
   simp only[Bool.or_eq_true,decide_eq_true_eq]at hb
   simp only[Bool.and_eq_false_iff,decide_eq_false_iff_not]
   omega
  rw[this]
 have hsz:(decide ((s.size:Int)≥1)&&decide ((s.size:Int)≤12))=true:=by
  simp only[Bool.or_eq_false_iff,decide_eq_false_iff_not]at hb
  simp only[Bool.and_eq_true,decide_eq_true_eq]
  omega
 refine zw ?_
 refine zi3 Ty Tryz.prog (τ:=Nat) (fun i=>⟨(ast s::dd::ab false::ai i::zAI []),[]⟩) (fun i=>i≤s.size∧∀j,j<i→zhN (s.data.getD j 0)=true) (fun i=>s.size - i) 0 ?_ ⟨Nat.zero_le _,fun j hj=>absurd hj (Nat.not_lt_zero j)⟩ ?_
 ·refine Gh.fgt ?_
  simp only[ddE,zcU,zcV,zdQ,Int.natCast_zero]
 intro i ⟨h1,h2⟩ K hK
 refine zw ?_
 refine zaa (fun hlt=> ?_) (fun hge=> ?_)
 ·have hi:i<s.size:=by simpa using hlt
  refine zw ?_
  refine⟨⟨Int.natCast_nonneg i,by omega⟩, ?_⟩
  refine⟨zp8 ?_, ?_⟩
  ·simp_all;omega
  have hok:zhN (s.data.getD i 0)= !((decide (((s.data.getD i 0).toNat:Int)<97)||decide (((s.data.getD i 0).toNat:Int)>122))&&(decide (((s.data.getD i 0).toNat:Int)<48)||decide (((s.data.getD i 0).toNat:Int)>57))&&(((s.data.getD i 0).toNat:Int) !=45)):=rfl
  generalize ((s.data.getD i 0).toNat:Int)=c at hok⊢
  refine zaa (fun hb2=> ?_) (fun hb2=> ?_)
  ·refine zw ?_
   have hn:nameP s=false:=by
    unfold nameP
    rw[show((List.range s.size).all fun j=>zhN (s.data.getD j 0))=false from List.all_eq_false.2 ⟨i,List.mem_range.2 hi,by rw[hok];revert hb2;simp;omega⟩,Bool.false_and]
   rw[hn]
  ·refine zw ?_
   refine hK _ (i+1) (Gh.fgt ?_) ⟨hi,fun j hj=> ?_⟩ (by omega)
   ·simp only[zal hi (by omega),ddE,zcU,zcV,zdQ]
   ·rcases Nat.lt_or_ge j i with h|h
    ·exact h2 j h
    ·rw[show j=i from by omega,hok];revert hb2;simp;omega
 ·refine zw ?_
  have hi:i=s.size:=by
   have:¬(i:Int)<s.size:=by simpa using hge
   omega
  have hn:nameP s=true:=by
   unfold nameP
   rw[show((List.range s.size).all fun j=>zhN (s.data.getD j 0))=true from List.all_eq_true.2 fun j hj=>h2 j (by rw[hi];exact List.mem_range.1 hj),Bool.true_and,hsz]
  rw[hn]
theorem ztZ (k n:Int) (s:ByteArray) (hs:s.size<2^62):CallOK Tryz.prog 83 [.f (.agg [di k,di n,dS s])] (fun r o=>r=[rb (zlz k n s)]∧o=[]):=by
 refine zh Tryz.func83 Tryz.results83 Tryz.ntmps83 Tryz.call83 ?_
 simp only[Tryz.f83,Option.getD]
 repeat'(first|exact zC|refine za0 ?_|((first|((try refine zaT ?_);apply za9)|(apply za7;intro _));(solve|exact(zmq _ hs)|(refine CallOK.le (zmq _ hs) ?_;exact zM)|fail);try case hn=>rfl)|((first|((try refine zaT ?_);apply za9)|(apply za7;intro _));(solve|exact(zfl _ _)|(refine CallOK.le (zfl _ _) ?_;exact zM)|fail);try case hn=>rfl)|(apply zaa<;>intro hb)|(apply I;exact zI)|(apply I<;>intro hg))
 all_goals refine congrArg (fun b=>[rb b]) ?_
 all_goals simp only[beq_iff_eq,beq_eq_false_iff_ne,ne_eq]at*
 all_goals first
  |(exfalso;omega)
  |(subst_vars;unfold zlz;generalize (s.toList==(⟨#[]⟩:ByteArray).toList)=q;generalize nameP s=p;cases q<;>cases p<;>simp;done)
  |(have e:(decide (k<1)||decide (k>6))=true:=(by simp;omega);unfold zlz;rw[if_pos e])
theorem zrv (r:Req) (hr:r.ok):CallOK Tryz.prog 43 [.f (.agg (r.enc.map C.d))] (fun x o=>x=[rb (Req.may r)]∧o=[]):=by
 refine zh Tryz.func43 Tryz.results43 Tryz.ntmps43 Tryz.call43 ?_
 simp only[Tryz.f43,Option.getD]
 repeat'(first|exact zC|refine za0 ?_|((first|((try refine zaT ?_);apply za9)|(apply za7;intro _));(solve|exact(ztZ _ _ _ hr.2.2.2.2)|(refine CallOK.le (ztZ _ _ _ hr.2.2.2.2) ?_;exact zM)|fail);try case hn=>rfl)|((first|((try refine zaT ?_);apply za9)|(apply za7;intro _));(solve|exact(zfl _ _)|(refine CallOK.le (zfl _ _) ?_;exact zM)|fail);try case hn=>rfl)|(apply zaa<;>intro hb)|(apply I;exact zI)|(apply I<;>intro hg))
 simp[Req.may,Bool.and_assoc]
theorem zAs:∀(a b:List UInt8),(Go.Op.bytesLess a b||a==b)= !(Go.Op.bytesLess b a)
 |[],[]=>rfl
 |[],y::ys=>rfl
 |x::xs,[]=>rfl
 |x::xs,y::ys=>by
  have ih:=zAs xs ys
  rw[Go.Op.bytesLess,Go.Op.bytesLess]
  rw[show((x::xs:List UInt8)==y::ys)=(x==y&&xs==ys) from rfl]
  have htri:x<y∨x=y∨y<x:=by
   rcases Nat.lt_trichotomy x.toNat y.toNat with h|h|h
   ·exact .inl (UInt8.lt_iff_toNat_lt.2 h)
   ·exact .inr (.inl (UInt8.toNat_inj.1 h))
   ·exact .inr (.inr (UInt8.lt_iff_toNat_lt.2 h))
  rcases htri with h|h|h
  ·have h2:¬y<x:=UInt8.lt_asymm h
   have h3:(y==x)=false:=by simp;intro e;subst e;exact absurd h (UInt8.lt_irrefl _)
   simp[h,h2,h3]
  ·subst h
   have h2:¬x<x:=UInt8.lt_irrefl _
   simp only[h2,decide_false,Bool.false_or,beq_self_eq_true,Bool.true_and]
   exact ih
  ·have h2:¬x<y:=UInt8.lt_asymm h
   have h3:(x==y)=false:=by simp;intro e;subst e;exact absurd h (UInt8.lt_irrefl _)
   simp[h,h2,h3]
def zwh (r:Reply):Bool:=decide (r.code<0)||decide (r.code>12)|| !(decide (r.session≥0)&&decide (r.session≤2305843009213693952))||decide (r.ahead<0)||decide (r.ahead>3)||decide ((r.held.length:Int)>4)||r.session==0&&decide ((r.held.length:Int)>0)
theorem zj5 (r:Reply):zbN r=(!(zwh r)&&zcg (zcC r.held) 0 r.held):=by
 have h1:(decide (r.session≥0)&&decide (r.session≤2305843009213693952))= !(decide (r.session<0)||decide (r.session>zbx)):=by
  have hH:zbx=2305843009213693952:=rfl
  rw[Bool.eq_iff_iff];simp[hH]
 unfold zbN zwh
 rw[h1]
 generalize decide (r.code<0)=a1
 generalize decide (r.code>12)=a2
 generalize decide (r.session<0)=a3
 generalize decide (r.session>zbx)=a4
 generalize decide (r.ahead<0)=a5
 generalize decide (r.ahead>3)=a6
 generalize decide ((r.held.length:Int)>4)=a7
 generalize (r.session==0)=a8
 generalize decide ((r.held.length:Int)>0)=a9
 generalize zcg (zcC r.held) 0 r.held=a0
 cases a1<;>cases a2<;>cases a3<;>cases a4<;>cases a5<;>cases a6<;>first|rfl|(cases a7<;>cases a8<;>cases a9<;>rfl)
set_option maxHeartbeats 2000000 in
theorem znW (r:Reply) (hr:zcD r):CallOK Tryz.prog 84 [.f (.agg r.lent)] (fun x o=>x=[rb (zbN r)]∧o=[]):=by
 refine zh Tryz.func84 Tryz.results84 Tryz.ntmps84 Tryz.call84 ?_
 simp only[Tryz.f84,Option.getD]
 obtain⟨h1,h2⟩:=hr
 have hh:=zfl r.session 0
 repeat'(first|exact zC|refine zq0 ?_|refine zx (hh) ?_|(apply zaa<;>intro hb)|(apply I;exact zI)|(apply I<;>intro hg))
 ·rw[zj5,show zwh r=true from hb];rfl
 ·have hs:zbN r=zcg (zcC r.held) 0 r.held:=by rw[zj5,show zwh r=false from hb];rfl
  rw[hs]
  clear hb
  refine zai (τ:=Nat) (fun i=>⟨(dd::ptq 1::dd::ai i::zez (zez [])),[(1,⟨2,[obq 1 [di r.code,di r.session,di r.ahead, .lent r.held.length (zaJ r.held)],none,none,none,none]⟩),(4,⟨2,[]⟩)]⟩)
   (fun i=>i≤r.held.length) (fun i=>zcg (zcC r.held) i (r.held.drop i)) (fun i=>r.held.length - i) 0
   (Gh.canon [1] [4] [] zK rfl rfl) (Nat.zero_le _) ?_
  intro i hi0 hF K hK
  rw[List.drop_zero]at hF
  refine zw ?_
  refine zaa (fun hlt=> ?_) (fun hge=> ?_)
  ·have hi:i<r.held.length:=by simpa using hlt
   have hat:=zcw hi
   have hw:=zal hi (by omega)
   rw[zdw hi]at hF
   have hnm:=zmq r.held[i].name (h2 _ (List.getElem_mem hi))
   have hhg:=zfl r.held[i].token 1
   have hH:(decide (r.held[i].token≥1)&&decide (r.held[i].token≤2305843009213693952))= !(decide (r.held[i].token<1)||decide (r.held[i].token>zbx)):=by
    have hH:zbx=2305843009213693952:=rfl
    rw[Bool.eq_iff_iff];simp[hH]
   cases e0:decide ((i:Int)>0)
   ·have h0:i=0:=by simpa using e0
    have hq:zcC r.held i r.held[i]= !(!nameP r.held[i].name|| !(decide (r.held[i].token≥1)&&decide (r.held[i].token≤2305843009213693952))):=by
     unfold zcC
     have:decide (i>0)=false:=by simpa using e0
     rw[this,Bool.false_and,Bool.or_false,hH,Bool.not_not,Bool.or_assoc]
    have hp:(zaJ r.held).drop ((IntKind.i64.wrap ((i:Int) - 1)).toNat*2)=r.held[i].enc++zaJ (r.held.drop (i+1)):=by
     rw[←zcw hi,h0];rfl
    repeat'(first|exact zC|refine zq (I hat (I hp (I e0 (I @zar zca)))) ?_|refine zx (hnm) ?_|refine zx (hhg) ?_|(apply zaa<;>intro hb)|(apply I;exact zI)|(apply I<;>intro hg))
    ·rw[hq,hb,if_neg (by simp)]at hF
     rw[←hF]
    ·exact hK _ (i+1) (Gh.canon [1] [] [] (zk hw) rfl rfl) hi (by rw[zdw hi,hq,hb];rfl) (by omega)
   ·have h0:0<i:=by simpa using e0
    have hq:zcC r.held i r.held[i]= !(!nameP r.held[i].name|| !(decide (r.held[i].token≥1)&&decide (r.held[i].token≤2305843009213693952))||(Go.Op.bytesLess r.held[i].name.toList (r.held[i - 1]'(by omega)).name.toList||r.held[i].name.toList==(r.held[i - 1]'(by omega)).name.toList)):=by
     rw[zAs]
     unfold zcC zrt
     have:decide (i>0)=true:=by simpa using e0
     rw[this,List.getElem?_eq_getElem (by omega),hH,Bool.not_not]
     simp only[Bool.true_and,Option.map_some,Option.getD_some,Bool.or_assoc]
    have hp:=zcw (show i - 1<r.held.length by omega)
    have hw1:IntKind.i64.wrap ((i:Int) - 1)=((i - 1:Nat):Int):=by rw[wrap64 (by omega) (by omega)];omega
    repeat'(first|exact zC|refine zq (I hat (I hp (I hw1 (I e0 (I @zar zca))))) ?_|refine zx (hnm) ?_|refine zx (hhg) ?_|(apply zaa<;>intro hb)|(apply I;exact zI)|(apply I<;>intro hg))
    ·rw[hq,hb,if_neg (by simp)]at hF
     rw[←hF]
    ·exact hK _ (i+1) (Gh.canon [1] [] [] (zk hw) rfl rfl) hi (by rw[zdw hi,hq,hb];rfl) (by omega)
  ·have hi:i=r.held.length:=by
    have:¬(i:Int)<r.held.length:=by simpa using hge
    omega
   rw[zlw hi]at hF
   rw[←hF]
   exact zW0 trivial
theorem zmr (m:Memo) (hr:zcD m.reply):CallOK Tryz.prog 44 [.f (.agg m.lent)] (fun x o=>x=[rb (answerB m)]∧o=[]):=by
 refine zh Tryz.func44 Tryz.results44 Tryz.ntmps44 Tryz.call44 ?_
 simp only[Tryz.f44,Option.getD]
 have hh:=zfl m.seq 1
 refine zL trivial (I (hh) (znW m.reply hr)) ?_
 simp[answerB,Bool.and_assoc]
theorem znU (l:List Memo) (hl:l.length<2^62) (c q:Int):CallOK Tryz.prog 188 [.f (al l.length (zaZ l)), .f (ai c), .f (ai q)] (fun r o=>r=[ri (zdk l c q)]∧o=[]):=by
 refine zh Tryz.func188 Tryz.results188 Tryz.ntmps188 Tryz.call188 ?_
 simp only[Tryz.f188,Option.getD]
 have hla:=zmi l hl c
 cases hf:zco l c with
 |none=>
  rw[hf]at hla
  simp only[Option.isSome_none,Option.getD_none]at hla
  have:zdk l c q=1:=by unfold zdk;rw[hf]
  rw[this]
  exact zW trivial (hla)
 |some m=>
  rw[hf]at hla
  simp only[Option.isSome_some,Option.getD_some]at hla
  have:zdk l c q=if decide (m.seq<q)=true then 1 else if(m.seq==q)=true then 0 else -1:=by unfold zdk;rw[hf];simp only[decide_eq_true_eq,beq_iff_eq]
  rw[this]
  cases h1:decide (m.seq<q)
  ·cases h2:(m.seq==q)
   ·exact zW (I h1 h2) (hla)
   ·exact zW (I h1 h2) (hla)
  ·exact zW h1 (hla)
def kR (a:Memo):List Memo→Bool→List Memo
 |[],put=>if put=true then []else [a]
 |m::r,put=>if(m.client==a.client)=true then a::kR a r true else if(!put&&decide (m.client>a.client))=true then a::m::kR a r true else m::kR a r put
theorem zo7 {a:Memo}:∀{l:List Memo},(∀m∈l,(m.client==a.client)=false)→kR a l true=l
 |[],_=>rfl
 |m::r,h=>by
  rw[kR,if_neg (by rw[h m List.mem_cons_self];simp),if_neg (by simp),zo7 fun x hx=>h x (List.mem_cons_of_mem _ hx)]
theorem ztW {a:Memo}:∀{l:List Memo},SM l→kR a l false=if(zco l a.client).isSome=true then l.set (zoj l a.client) a else l.take (zoj l a.client)++a::l.drop (zoj l a.client)
 |[],_=>rfl
 |m::r,hs=>by
  have hs':=List.pairwise_cons.1 hs
  rw[kR]
  by_cases h1:m.client=a.client
  ·have hp:zoj (m::r) a.client=0:=by unfold zoj;rw[zdl,if_neg (by simp;omega)]
   have hf:(zco (m::r) a.client).isSome=true:=by unfold zco;rw[List.find?_cons_of_pos (by simpa using h1)];rfl
   rw[if_pos (by simpa using h1),if_pos hf,hp,List.set_cons_zero,zo7 fun x hx=>by have:=hs'.1 x hx;simp;omega]
  ·rw[if_neg (by simpa using h1)]
   by_cases h2:m.client>a.client
   ·have hp:zoj (m::r) a.client=0:=by unfold zoj;rw[zdl,if_neg (by simp;omega)]
    have hf:(zco (m::r) a.client).isSome=false:=by
     rw[Option.isSome_eq_false_iff,Option.isNone_iff_eq_none]
     refine List.find?_eq_none.2 fun x hx=> ?_
     rcases List.mem_cons.1 hx with rfl|hx
     ·simpa using h1
     ·have:=hs'.1 x hx;simp;omega
    rw[if_pos (by simpa using h2),hf,if_neg (by simp),hp,zo7 fun x hx=>by have:=hs'.1 x hx;simp;omega]
    rfl
   ·have hp:zoj (m::r) a.client=zoj r a.client+1:=by unfold zoj;rw[zdl,if_pos (by simp;omega)]
    have hf:zco (m::r) a.client=zco r a.client:=by unfold zco;rw[List.find?_cons_of_neg (by simpa using h1)]
    rw[if_neg (by simpa using h2),ztW hs'.2,hf,hp]
    split<;>rfl
theorem zy2 {a:Memo} {l:List Memo} {i:Nat} {put:Bool} (hi:i<l.length):kR a (l.drop i) put=if(l[i].client==a.client)=true then a::kR a (l.drop (i+1)) true else if(!put&&decide (l[i].client>a.client))=true then a::l[i]::kR a (l.drop (i+1)) true else l[i]::kR a (l.drop (i+1)) put:=by
 rw[List.drop_eq_getElem_cons hi,kR]
abbrev zDS (a:Memo):List C:=[di a.client,di a.seq,di a.reply.code,di a.reply.session,di a.reply.ahead, .d (.sl a.reply.held.length (zaJ a.reply.held))]
set_option maxHeartbeats 2000000 in
theorem zwg (l:List Memo) (hs:SM l) (hl:l.length<2^30) (a:Memo) (ha:answerB a=true) (har:zcD a.reply) (hf:zdk l a.client a.seq=1):
  CallOK Tryz.prog 191 [.f (al l.length (zaZ l)), .f (.agg (a.enc.map C.d))] (fun r o=>r=[.one (.own 6 (zmm l a).length (zaZ (zmm l a)) false)]∧o=[]):=by
 refine CallOK.nil ?_
 have hk:zmm l a=kR a l false:=by
  rw[ztW hs]
  unfold zmm
  rw[if_neg (by rw[ha,hf];simp)]
 rw[hk]
 refine zh Tryz.func191 Tryz.results191 Tryz.ntmps191 Tryz.call191 ?_
 simp only[Tryz.f191,Option.getD]
 have hma:=zmr a har
 rw[ha]at hma
 have hfr:=znU l (by omega) a.client a.seq
 rw[hf]at hfr
 have h11:((1:Int) !=1)=false:=rfl
 refine zL h11 (I (hma) (hfr)) ?_
 refine zai (τ:=Nat×Bool×List Memo) (fun t=>⟨(al l.length (zaZ l)::dq2 (ptq 3::dd::ptq 5:: .one (.own ⟨6,1,1⟩ 0 t.2.2.length)::ab t.2.1::ai t.1::zxX (zez []))),
   [(3,⟨2,[obq 1 [di a.client,di a.seq,di a.reply.code,di a.reply.session,di a.reply.ahead, .d (.sl a.reply.held.length (zaJ a.reply.held))],none,none,none,none,none,none]⟩),(5,⟨2,[obq 1 [di a.client,di a.seq,di a.reply.code,di a.reply.session,di a.reply.ahead, .d (.sl a.reply.held.length (zaJ a.reply.held))],none,none,none,none,none,none]⟩),(6,⟨2,[none,roq 1 6 (zaZ t.2.2)]⟩),(47,⟨2,[]⟩),(48,⟨2,[]⟩),(63,⟨2,[]⟩),(64,⟨2,[]⟩),(70,⟨2,[]⟩),(71,⟨2,[]⟩)]⟩)
  (fun t=>t.1≤l.length∧t.2.2.length≤t.1+1+1∧(t.2.1=false→t.2.2.length≤t.1)) (fun t=>t.2.2++kR a (l.drop t.1) t.2.1) (fun t=>l.length - t.1) (0,false,[])
  ((Gh.nil (i:=6) (s:=6) (sz:=6) rfl).trans (Gh.canon [3,5,6] [47,48,63,64,70,71] [] zK rfl rfl)) ⟨Nat.zero_le _,by simp,by simp⟩ ?_
 rintro⟨i,put,m⟩ ⟨hi0,hm1,hm2⟩ hF K hK
 simp only[List.drop_zero,List.nil_append]at hi0 hm1 hm2 hF hK⊢
 refine zw ?_
 refine zaa (fun hlt=> ?_) (fun hge=> ?_)
 ·have hi:i<l.length:=by simpa using hlt
  have hat:=zfc hi
  have hw:=zal hi (by omega)
  have hd:=zy2 (a:=a) (put:=put) hi
  have hb1:((m.length+1)*64≤2^47)=True:=eq_true (by omega)
  have hb2:((m.length+1+1)*64≤2^47)=True:=eq_true (by omega)
  have hsA:zaZ m++[iD a.client,iD a.seq,iD a.reply.code,iD a.reply.session,iD a.reply.ahead, .sl a.reply.held.length (zaJ a.reply.held)]=zaZ (m++[a]):=by rw[zef]
  cases h1:(l[i].client==a.client)
  ·rw[if_neg (by rw[h1];simp)]at hd
   cases h2:(!put&&decide (l[i].client>a.client))
   ·rw[h2,if_neg (by simp)]at hd
    have hsB:zaZ m++[iD l[i].client,iD l[i].seq,iD l[i].reply.code,iD l[i].reply.session,iD l[i].reply.ahead, .sl l[i].reply.held.length (zaJ l[i].reply.held)]=zaZ (m++[l[i]]):=by rw[zef]
    refine zL0 (I hat (I h1 (I h2 (I hb1 (I hsB (I @zaC zca)))))) ?_
    exact hK _ (i+1,put,m++[l[i]]) (Gh.canon [3,5,6] [] [] (zk (I hw (I @List.length_append.{0} @List.length_singleton.{0}))) rfl rfl) ⟨hi,by simp;omega,fun hp=>by have:=hm2 hp;simp;omega⟩ (by simp only;rw[hd];simp) (by simp only;omega)
   ·rw[h2,if_pos rfl]at hd
    have hsB:zaZ (m++[a])++[iD l[i].client,iD l[i].seq,iD l[i].reply.code,iD l[i].reply.session,iD l[i].reply.ahead, .sl l[i].reply.held.length (zaJ l[i].reply.held)]=zaZ (m++[a]++[l[i]]):=by rw[zef (l:=m++[a])]
    have htA:(zaZ (m++[a])).take ((m.length+1)*6)=zaZ (m++[a]):=by have:=zcF (l:=m++[a]);rwa[List.length_append,List.length_singleton]at this
    refine zL0 (I hat (I h1 (I h2 (I hb1 (I hb2 (I hsA (I htA (I hsB (I @zaC zca))))))))) ?_
    have hpf:put=false:=by cases put;rfl;simp at h2
    have hm3:=hm2 hpf
    exact hK _ (i+1,true,m++[a]++[l[i]]) (Gh.canon [3,5,6] [] [] (zk (I hw (I @List.length_append.{0} @List.length_singleton.{0}))) rfl rfl) ⟨hi,by simp;omega,fun hp=>by cases hp⟩ (by simp only;rw[hd];simp) (by simp only;omega)
  ·rw[if_pos h1]at hd
   refine zL0 (I hat (I h1 (I hb1 (I hsA (I @zaC zca))))) ?_
   exact hK _ (i+1,true,m++[a]) (Gh.canon [3,5,6] [] [] (zk (I hw (I @List.length_append.{0} @List.length_singleton.{0}))) rfl rfl) ⟨hi,by simp;omega,fun hp=>by cases hp⟩ (by simp only;rw[hd];simp) (by simp only;omega)
 ·have hi:i=l.length:=by
   have:¬(i:Int)<l.length:=by simpa using hge
   omega
  subst hi
  rw[List.drop_length,kR]at hF
  have hb1:((m.length+1)*64≤2^47)=True:=eq_true (by omega)
  have hsA:zaZ m++[iD a.client,iD a.seq,iD a.reply.code,iD a.reply.session,iD a.reply.ahead, .sl a.reply.held.length (zaJ a.reply.held)]=zaZ (m++[a]):=by rw[zef]
  cases put
  ·refine zL0 (I hb1 (I hsA (I @zaC zca))) ?_
   have hF':m++[a]=kR a l false:=hF
   rw[←hF']
   show zax _ _∧True
   simp[zax]
  ·refine zL0 (I hb1 hsA) ?_
   have hF':m=kR a l false:=by rw[←hF];simp
   rw[←hF']
   show zax _ _∧True
   simp[zax]
theorem znV (l:List Memo) (c q:Int):zdk l c q=1∨zdk l c q=0∨zdk l c q= -1:=by
 unfold zdk
 cases zco l c with
 |none=>exact .inl rfl
 |some m=>simp only;split;exact .inl rfl;split;exact .inr (.inl rfl);exact .inr (.inr rfl)
abbrev ztX (a:Reply):RF:= .agg [.d (iD a.code), .d (iD a.session), .d (iD a.ahead), .d (.sl a.held.length (zaJ a.held))]
set_option maxHeartbeats 4000000 in
theorem ztY (s:St) (h:Small s) (hr:RightS s) (r:Req) (hro:r.ok) (hdr:Req.may r=true→answerB ⟨r.client,r.seq,(zbB s r).2⟩=true) (hdo:Req.may r=true→zcD (zbB s r).2):
  CallOK Tryz.prog 159 [.f (zyR s), .f (.agg (r.enc.map C.d))]
  (fun x o=>x=[stRF (ze7 s r).1,ztX (ze7 s r).2.1,rb (ze7 s r).2.2]∧o=[]):=by
 refine CallOK.nil ?_
 refine zh Tryz.func159 Tryz.results159 Tryz.ntmps159 Tryz.call159 ?_
 simp only[Tryz.f159,Option.getD]
 have hmr:=zrv r hro
 have hfr:=znU s.memos (by have:=h.memos;omega) r.client r.seq
 cases hm:Req.may r
 ·rw[hm]at hmr
  have ha:ze7 s r=(s,⟨1,0,0,[]⟩,false):=by unfold ze7;rw[if_pos (by rw[hm];rfl)]
  rw[ha]
  repeat'(first|exact zC|refine zq0 ?_|refine zx (hmr) ?_|(apply zaa<;>intro hb)|(apply I;exact zI)|(apply I<;>intro hg))
  simp[zaL,zcv,zaR,zax]
 ·rw[hm]at hmr
  have hap:ze7 s r=if decide (zdk s.memos r.client r.seq<0)=true then(s,⟨0,0,0,[]⟩,false)else if(zdk s.memos r.client r.seq==0)=true then(s,((zco s.memos r.client).map Memo.reply).getD ⟨0,0,0,[]⟩,false)else
    ({(zbB s r).1 with memos:=zmm (zbB s r).1.memos ⟨r.client,r.seq,(zbB s r).2⟩},(zbB s r).2,true):=by
   unfold ze7
   rw[if_neg (by rw[hm];simp)]
   have hc:=znV s.memos r.client r.seq
   rcases hc with e|e|e<;>rw[e]<;>rfl
  cases f1:decide (zdk s.memos r.client r.seq<0)
  ·rw[if_neg (by rw[f1];simp)]at hap
   cases f2:(zdk s.memos r.client r.seq==0)
   ·rw[if_neg (by rw[f2];simp)]at hap
    rw[hap]
    have hdn:=zwi s h hr r hro hm
    have hdm:=zrn h r
    have hf1:zdk s.memos r.client r.seq=1:=by
     rcases znV s.memos r.client r.seq with e|e|e
     ·exact e
     ·rw[e]at f2;cases f2
     ·rw[e]at f1;cases f1
    have hke:=zwg s.memos hr.ms h.memos ⟨r.client,r.seq,(zbB s r).2⟩ (hdr hm) (hdo hm) hf1
    rw[hdm]
    repeat'(first|exact zC|(with_reducible first|refine zbh 10 ?_|refine zaU 10 ?_|refine zaV 10 ?_)|refine zu (I f1 (I f2 hdm)) ?_|(with_reducible first|refine zae _ _ ?_)|refine zx (hmr) ?_|refine zx (hfr) ?_|refine zx (hdn) ?_|(apply zaa<;>intro hb)|(apply I;exact zI)|(apply I<;>intro hg))
    refine zbl (zbk (Gh.sealF 11 3 (.own ⟨11,4,4⟩ 0 (zbB s r).2.held.length) ?_) ?_)
    ·exact zo0
    refine zf0 ?_
    repeat'(first|exact zC|(with_reducible first|refine zbh 11 ?_|refine zaU 11 ?_|refine zaV 11 ?_)|refine zu hdm ?_|(with_reducible first|refine zae _ _ ?_)|refine zx (hke) ?_|(apply zaa<;>intro hb)|(apply I;exact zI)|(apply I<;>intro hg))
    refine zbl (zbk (Gh.sealF 10 5 (.own ⟨10,6,7⟩ 0 (zmm s.memos ⟨r.client,r.seq,(zbB s r).2⟩).length) ?_) ?_)
    ·exact zo0
    refine zf0 ?_
    repeat'(first|exact zC|refine zq hdm ?_|(apply zaa<;>intro hb)|(apply I;exact zI)|(apply I<;>intro hg))
    simp[zaL,zcv,zaR,zax]
   ·rw[if_pos f2]at hap
    rw[hap]
    have hla:=zmi s.memos (by have:=h.memos;omega) r.client
    refine zL (I f1 f2) (I (hmr) (I (hfr) (hla))) ?_
    cases hfm:zco s.memos r.client with
    |none=>unfold zdk at f2;rw[hfm]at f2;cases f2
    |some m=>simp[zaL,zcv,zaR,zax]
  ·rw[if_pos f1]at hap
   rw[hap]
   repeat'(first|exact zC|refine zq f1 ?_|refine zx (hmr) ?_|refine zx (hfr) ?_|(apply zaa<;>intro hb)|(apply I;exact zI)|(apply I<;>intro hg))
   simp[zaL,zcv,zaR,zax]
theorem zmh {T:Nat→Option TI} {P:Program} {x:Code} {g g':G} {Q:Ex→G→Prop} (h:Gh g g') (hl:zrb T P x g' Q):zrb T P x g Q:=by
 obtain⟨I,n0,⟨g0,h1,h2⟩,h3⟩:=hl
 exact⟨I,n0,⟨g0,h.trans h1,h2⟩,h3⟩
def sameI (a b:List Int):Bool:=(a.length==b.length)&&((a.zip b).all fun p=>p.1==p.2)
theorem zoV (a b:List Int) (ha:a.length<2^62) (hb:b.length<2^62):CallOK Tryz.prog 185 [.f (al a.length (zaQ a)), .f (al b.length (zaQ b))] (fun r o=>r=[rb (sameI a b)]∧o=[]):=by
 refine zh Tryz.func185 Tryz.results185 Tryz.ntmps185 Tryz.call185 ?_
 simp only[Tryz.f185,Option.getD]
 cases hl:((a.length:Int) !=(b.length:Int))
 ·have hle:a.length=b.length:=by simp at hl;omega
  have hs:sameI a b=(a.zip b).all fun p=>p.1==p.2:=by unfold sameI;rw[hle];simp
  rw[hs]
  refine zL0 hl ?_
  refine zai (τ:=Nat) (fun i=>⟨(al a.length (zaQ a)::al b.length (zaQ b)::dq3 (ai i::zr9 [])),[]⟩)
   (fun i=>i≤a.length) (fun i=>((a.drop i).zip (b.drop i)).all fun p=>p.1==p.2) (fun i=>a.length - i) 0
   (Gh.canon [] [] [] zK rfl rfl) (Nat.zero_le _) ?_
  intro i hi0 hF K hK
  rw[List.drop_zero,List.drop_zero]at hF
  refine zw ?_
  refine zaa (fun hlt=> ?_) (fun hge=> ?_)
  ·have hi:i<a.length:=by simpa using hlt
   have hib:i<b.length:=by omega
   have hat:=zdA hi
   have hbt:=zdA hib
   have hw:=zal hi ha
   have hq:(((a.drop i).zip (b.drop i)).all fun p=>p.1==p.2)=((a[i]==b[i])&&(((a.drop (i+1)).zip (b.drop (i+1))).all fun p=>p.1==p.2)):=by
    rw[List.drop_eq_getElem_cons hi,List.drop_eq_getElem_cons hib,List.zip_cons_cons,List.all_cons]
   rw[hq]at hF
   cases he:a[i] !=b[i]
   ·have he':(a[i]==b[i])=true:=by simpa using he
    rw[he',Bool.true_and]at hq
    refine zL0 (I hat (I hbt (I he (I @zaO zca)))) ?_
    exact hK _ (i+1) (Gh.canon [] [] [] (zk hw) rfl rfl) hi hq.symm (by omega)
   ·have he':(a[i]==b[i])=false:=by simpa using he
    rw[he',Bool.false_and]at hF
    refine zL0 (I hat (I hbt (I he (I @zaO zca)))) ?_
    rw[←hF]
  ·have hi:i=a.length:=by
    have:¬(i:Int)<a.length:=by simpa using hge
    omega
   rw[hi,List.drop_length,List.zip_nil_left,List.all_nil]at hF
   rw[←hF]
   exact zW0 trivial
 ·have hs:sameI a b=false:=by
   have:(a.length==b.length)=false:=by simp at hl⊢;omega
   unfold sameI;rw[this];rfl
  rw[hs]
  exact zW0 hl
def st0:St:=⟨0,0,0,[],[],[]⟩
def rq0:Req:=⟨3,1,1,0, .empty⟩
theorem znN:RightS st0:=zdv.1 rfl
def st1:St:=⟨0,1,0,[⟨3,1,0⟩],[],[⟨3,1,⟨0,1,0,[]⟩⟩]⟩
end Go.Proofs.YtliimajkpggbhaaGreat
