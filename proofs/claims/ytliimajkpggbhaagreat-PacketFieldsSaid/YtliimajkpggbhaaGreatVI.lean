import Derived.Test.YtliimajkpggbhaaGreatVE
namespace Go.Proofs.YtliimajkpggbhaaGreat
open Go.Pk
set_option maxRecDepth 100000
set_option linter.unusedSimpArgs false
set_option linter.unusedVariables false
theorem zqV {l:List Lk} {name:ByteArray} {c t:Int} {w:Bool} (h:((zaX l name c t w).2.2==10)=false):(zaX l name c t w).2.1=0:=by
 revert h
 unfold zaX
 cases zdG l name with
 |none=>simp only;split<;>intros<;>rfl
 |some k=>
  simp only
  repeat' split
  all_goals first|(intros;rfl)|(intro h;cases h)
set_option maxHeartbeats 8000000 in
theorem zvG (s:St) (h:Small s) (hr:RightS s) (r:Req) (hro:r.ok) (hm:Req.may r=true):CallOK Tryz.prog 190 [.f (zxY s), .f (.agg (r.enc.map C.d))]
  (fun x o=>x=[zyz (zbu s r).1,zlw (zbu s r).2]∧o=[]):=by
 refine CallOK.nil ?_
 refine zh Tryz.func190 Tryz.results190 Tryz.ntmps190 Tryz.call190 ?_
 simp only[Tryz.f190,Option.getD]
 obtain⟨hc,_,hnm⟩:=zly hm
 have hfi:=zeX s.sess (by have:=h.sess;omega) r.client
 have hT:=hr.token
 have hH:zbs=2^61:=by decide
 have hll:∀k∈s.locks,k.line.length<2^30:=fun k hk=>(h.line k hk).1
 have hl3:∀k∈s.locks,k.line.length≤3:=fun k hk=>(zbM.1 (hr.lok k hk).2.2.1).1
 have hlf:∀k∈s.locks,k.line.length<2^30∧k.line.Nodup:=fun k hk=>⟨hll k hk,zgB hr k hk⟩
 cases h1:r.kind==1
 ·cases hf:zaC s.sess r.client with
  |none=>
   rw[hf]at hfi
   simp only[Option.isSome_none,Option.getD_none]at hfi
   have hd:zbu s r=(s,⟨9,0,0,[]⟩):=by unfold zbu;rw[if_neg (by rw[h1];simp),hf]
   rw[hd]
   repeat'(first|exact zC|refine zq h1 ?_|refine zx (hfi) ?_|(apply zaa<;>intro hb)|(apply I;exact zI)|(apply I<;>intro hg))
   all_goals simp[zaG,zcn,zaK,zaw]
  |some x=>
   rw[hf]at hfi
   simp only[Option.isSome_some,Option.getD_some]at hfi
   cases hx:x.num !=r.session
   ·have hrn:=ztA s.sess hr.ss h.sess r.client s.time hr.time (by rw[hf];rfl)
    have hwt:IntKind.i64.wrap (s.token+1)=s.token+1:=wrap64 (by omega) (by omega)
    obtain⟨hrf,hrl⟩:=zqW hr hf
    obtain⟨S1,hS1⟩:∃S1,S1=(zcH s.sess r.client s.time).1:=⟨_,rfl⟩
    rw[←hS1]at hrf hrl
    have hsm:∀(t:Int) (L:List Lk),L.length<2^30→(∀k∈L,k.line.length<2^30∧k.name.size<2^62)→Small ⟨s.time,s.num,t,S1,L,s.memos⟩:=fun t L h1 h2=>⟨by simp only;have:=h.sess;omega,h1,h.memos,h2,h.held⟩
    have hto:∀(t:Int) (L:List Lk) (code ahead:Int),L.length<2^30→(∀k∈L,k.line.length<2^30∧k.name.size<2^62)→CallOK Tryz.prog 208 [.f (zxY ⟨s.time,s.num,t,S1,L,s.memos⟩), .f (ai r.client), .f (ai code), .f (ai ahead)]
      (fun y o=>y=[zlw ⟨code,x.num,ahead,zb5 L r.client⟩]∧o=[]):=fun t L code ahead h1 h2=>by
     have:=zlP ⟨s.time,s.num,t,S1,L,s.memos⟩ (hsm t L h1 h2) r.client code ahead
     simp only[hrf]at this
     exact this
    have hd0:zbu s r=if(r.kind==3||r.kind==4)=true then
      (if((zaX s.locks r.name r.client s.token (r.kind==3)).2.2==0)=true then(⟨s.time,s.num,s.token+1,S1,(zaX s.locks r.name r.client s.token (r.kind==3)).1,s.memos⟩,⟨(zaX s.locks r.name r.client s.token (r.kind==3)).2.2,x.num,0,zb5 (zaX s.locks r.name r.client s.token (r.kind==3)).1 r.client⟩)
      else if((zaX s.locks r.name r.client s.token (r.kind==3)).2.2==10)=true then(⟨s.time,s.num,s.token,S1,(zaX s.locks r.name r.client s.token (r.kind==3)).1,s.memos⟩,⟨(zaX s.locks r.name r.client s.token (r.kind==3)).2.2,x.num,(zaX s.locks r.name r.client s.token (r.kind==3)).2.1,zb5 (zaX s.locks r.name r.client s.token (r.kind==3)).1 r.client⟩)
      else(⟨s.time,s.num,s.token,S1,s.locks,s.memos⟩,⟨(zaX s.locks r.name r.client s.token (r.kind==3)).2.2,x.num,0,zb5 s.locks r.client⟩))
     else if(r.kind==5)=true then
      (if((zbV s.locks r.name r.client s.token).2.2==0)=true then(⟨s.time,s.num,s.token+(zbV s.locks r.name r.client s.token).2.1,S1,(zbV s.locks r.name r.client s.token).1,s.memos⟩,⟨(zbV s.locks r.name r.client s.token).2.2,x.num,0,zb5 (zbV s.locks r.name r.client s.token).1 r.client⟩)
      else(⟨s.time,s.num,s.token,S1,s.locks,s.memos⟩,⟨(zbV s.locks r.name r.client s.token).2.2,x.num,0,zb5 s.locks r.client⟩))
     else if(r.kind==6)=true then(zbE ⟨s.time,s.num,s.token,S1,s.locks,s.memos⟩ [r.client],⟨0,0,0,[]⟩)
     else(⟨s.time,s.num,s.token,S1,s.locks,s.memos⟩,⟨0,x.num,0,zb5 s.locks r.client⟩):=by
     rw[hS1]
     unfold zbu
     rw[if_neg (by rw[h1];simp),hf]
     simp only
     rw[if_neg (by rw[hx];simp)]
     split
     ·by_cases e0:(zaX s.locks r.name r.client s.token (r.kind==3)).2.2=0
      ·rw[if_pos e0,if_neg (by rw[e0];decide),if_pos (by simpa using e0)]
      ·by_cases e10:(zaX s.locks r.name r.client s.token (r.kind==3)).2.2=10
       ·rw[if_neg e0,if_pos e10,if_pos e10,if_neg (by simpa using e0),if_pos (by simpa using e10)]
       ·rw[if_neg e0,if_neg e10,if_neg e10,if_neg (by simpa using e0),if_neg (by simpa using e10)]
     ·split
      ·by_cases e0:(zbV s.locks r.name r.client s.token).2.2=0
       ·rw[if_pos e0,if_pos (by simpa using e0)]
       ·rw[if_neg e0,if_neg (by simpa using e0)]
      ·rfl
    rw[←hS1]at hrn
    have htl:=zsZ s.locks r.name r.client s.token (r.kind==3)
    have hfl:=zs1 s.locks r.name r.client s.token
    have hnl:=hr.ll
    have htn:=zqX (name:=r.name) (c:=r.client) (t:=s.token) (w:=r.kind==3) h.line hr.ls hl3 hro.2.2.2.2
    have hfn:=zqY (name:=r.name) (c:=r.client) (t:=s.token) h.line hr.ls
    have hta:=zvM s.locks hr.ls h.locks hll r.name r.client s.token (by omega) hc (r.kind==3)
    have hfr:=zpS s.locks hr.ls h.locks hlf r.name r.client s.token (by omega)
    have htz:=zqV (l:=s.locks) (name:=r.name) (c:=r.client) (t:=s.token) (w:=r.kind==3)
    cases h3:r.kind==3
    ·rw[h3]at hta htl htn htz
     rw[h3,Bool.false_or]at hd0
     cases h4:r.kind==4
     ·rw[h4,if_neg (by simp)]at hd0
      cases h5:r.kind==5
      ·rw[h5,if_neg (by simp)]at hd0
       cases h6:r.kind==6
       ·rw[h6,if_neg (by simp)]at hd0
        rw[hd0]
        have ht1:=hto s.token s.locks 0 0 h.locks h.line
        repeat'(first|exact zC|(with_reducible first|refine zbd 8 ?_|refine zaR 8 ?_|refine zaS 8 ?_)|refine zu (I h1 (I hx (I h3 (I h4 (I h5 h6))))) ?_|(with_reducible first|refine zae _ _ ?_)|refine zx (hfi) ?_|refine zx (hrn) ?_|(apply zaa<;>intro hb)|(apply I;exact zI)|(apply I<;>intro hg))
        refine zbf (zbm (Gh.sealF 2 3 (.own ⟨2,4,7⟩ 0 S1.length) ?_) ?_)
        ·exact zo0
        refine zf0 ?_
        repeat'(first|exact zC|refine zq (I h1 (I hx (I h3 (I h4 (I h5 h6))))) ?_|refine zx (ht1) ?_|(apply zaa<;>intro hb)|(apply I;exact zI)|(apply I<;>intro hg))
        simp[zaG,zcn,zaK,zaw]
       ·rw[h6,if_pos rfl]at hd0
        rw[hd0]
        have hwo:=znr ⟨s.time,s.num,s.token,S1,s.locks,s.memos⟩ (hsm s.token s.locks h.locks h.line) hr.ls (fun k hk=>zgB hr k hk) hr.token [r.client] (by simp)
        repeat'(first|exact zC|(with_reducible first|refine zbd 8 ?_|refine zaR 8 ?_|refine zaS 8 ?_)|refine zu (I h1 (I hx (I h3 (I h4 (I h5 h6))))) ?_|(with_reducible first|refine zae _ _ ?_)|refine zx (hfi) ?_|refine zx (hrn) ?_|(apply zaa<;>intro hb)|(apply I;exact zI)|(apply I<;>intro hg))
        refine zbf (zbm (Gh.sealF 2 3 (.own ⟨2,4,7⟩ 0 S1.length) ?_) ?_)
        ·exact zo0
        refine zf0 ?_
        repeat'(first|exact zC|refine zq (I h1 (I hx (I h3 (I h4 (I h5 h6))))) ?_|refine zx (hwo) ?_|(apply zaa<;>intro hb)|(apply I;exact zI)|(apply I<;>intro hg))
        simp[zaG,zcn,zaK,zaw]
      ·rw[h5,if_pos rfl]at hd0
       have hgi:=zs2 s.locks r.name r.client s.token
       generalize hT0:zbV s.locks r.name r.client s.token=T at*
       cases e0:T.2.2==0
       ·rw[e0,if_neg (by simp)]at hd0
        rw[hd0]
        have ht1:=hto s.token s.locks T.2.2 0 h.locks h.line
        repeat'(first|exact zC|(with_reducible first|refine zbd 8 ?_|refine zaR 8 ?_|refine zaS 8 ?_)|refine zu (I h1 (I hx (I h3 (I h4 (I h5 e0))))) ?_|(with_reducible first|refine zae _ _ ?_)|refine zx (hfi) ?_|refine zx (hrn) ?_|(apply zaa<;>intro hb)|(apply I;exact zI)|(apply I<;>intro hg))
        refine zbf (zbm (Gh.sealF 2 3 (.own ⟨2,4,7⟩ 0 S1.length) ?_) ?_)
        ·exact zo0
        refine zf0 ?_
        repeat'(first|exact zC|refine zq (I h1 (I hx (I h3 (I h4 (I h5 e0))))) ?_|refine zx (hfr) ?_|refine zx (ht1) ?_|(apply zaa<;>intro hb)|(apply I;exact zI)|(apply I<;>intro hg))
        simp[zaG,zcn,zaK,zaw]
       ·rw[e0,if_pos rfl]at hd0
        have hwf:IntKind.i64.wrap (s.token+T.2.1)=s.token+T.2.1:=wrap64 (by omega) (by omega)
        rw[hd0]
        have ht1:=hto (s.token+T.2.1) T.1 T.2.2 0 (by omega) hfn
        repeat'(first|exact zC|(with_reducible first|refine zbd 8 ?_|refine zaR 8 ?_|refine zaS 8 ?_)|refine zu (I h1 (I hx (I h3 (I h4 (I h5 e0))))) ?_|(with_reducible first|refine zae _ _ ?_)|refine zx (hfi) ?_|refine zx (hrn) ?_|(apply zaa<;>intro hb)|(apply I;exact zI)|(apply I<;>intro hg))
        refine zbf (zbm (Gh.sealF 2 3 (.own ⟨2,4,7⟩ 0 S1.length) ?_) ?_)
        ·exact zo0
        refine zf0 ?_
        repeat'(first|exact zC|(with_reducible first|refine zbd 22 ?_|refine zaR 22 ?_|refine zaS 22 ?_)|refine zu (I h1 (I hx (I h3 (I h4 (I h5 (I e0 hwf)))))) ?_|(with_reducible first|refine zae _ _ ?_)|refine zx (hfr) ?_|(apply zaa<;>intro hb)|(apply I;exact zI)|(apply I<;>intro hg))
        refine zbf (zbm (Gh.sealF 2 4 (.own ⟨2,5,8⟩ 0 T.1.length) ?_) ?_)
        ·exact zo0
        refine zf0 ?_
        repeat'(first|exact zC|refine zq (I h1 (I hx (I h3 (I h4 (I h5 (I e0 hwf)))))) ?_|refine zx (ht1) ?_|(apply zaa<;>intro hb)|(apply I;exact zI)|(apply I<;>intro hg))
        simp[zaG,zcn,zaK,zaw]
     ·rw[h4,if_pos rfl]at hd0
      generalize hT0:zaX s.locks r.name r.client s.token false=T at*
      cases e0:T.2.2==0
      ·cases e10:T.2.2==10
       ·rw[e0,if_neg (by simp),e10,if_neg (by simp)]at hd0
        rw[hd0]
        have ht1:=hto s.token s.locks T.2.2 0 h.locks h.line
        have hz:=htz e10
        rw[hz]at hta
        repeat'(first|exact zC|(with_reducible first|refine zbd 8 ?_|refine zaR 8 ?_|refine zaS 8 ?_)|refine zu (I h1 (I hx (I h3 (I h4 (I e0 e10))))) ?_|(with_reducible first|refine zae _ _ ?_)|refine zx (hfi) ?_|refine zx (hrn) ?_|(apply zaa<;>intro hb)|(apply I;exact zI)|(apply I<;>intro hg))
        refine zbf (zbm (Gh.sealF 2 3 (.own ⟨2,4,7⟩ 0 S1.length) ?_) ?_)
        ·exact zo0
        refine zf0 ?_
        repeat'(first|exact zC|refine zq (I h1 (I hx (I h3 (I h4 (I e0 (I e10 hwt)))))) ?_|refine zx (hta) ?_|refine zx (ht1) ?_|(apply zaa<;>intro hb)|(apply I;exact zI)|(apply I<;>intro hg))
        simp[zaG,zcn,zaK,zaw]
       ·rw[e0,if_neg (by simp),e10,if_pos rfl]at hd0
        rw[hd0]
        have ht1:=hto s.token T.1 T.2.2 T.2.1 (by omega) htn
        repeat'(first|exact zC|(with_reducible first|refine zbd 8 ?_|refine zaR 8 ?_|refine zaS 8 ?_)|refine zu (I h1 (I hx (I h3 (I h4 (I e0 e10))))) ?_|(with_reducible first|refine zae _ _ ?_)|refine zx (hfi) ?_|refine zx (hrn) ?_|(apply zaa<;>intro hb)|(apply I;exact zI)|(apply I<;>intro hg))
        refine zbf (zbm (Gh.sealF 2 3 (.own ⟨2,4,7⟩ 0 S1.length) ?_) ?_)
        ·exact zo0
        refine zf0 ?_
        repeat'(first|exact zC|(with_reducible first|refine zbd 16 ?_|refine zaR 16 ?_|refine zaS 16 ?_)|refine zu (I h1 (I hx (I h3 (I h4 (I e0 (I e10 hwt)))))) ?_|(with_reducible first|refine zae _ _ ?_)|refine zx (hta) ?_|(apply zaa<;>intro hb)|(apply I;exact zI)|(apply I<;>intro hg))
        refine zbf (zbm (Gh.sealF 2 4 (.own ⟨2,5,8⟩ 0 T.1.length) ?_) ?_)
        ·exact zo0
        refine zf0 ?_
        repeat'(first|exact zC|refine zq (I h1 (I hx (I h3 (I h4 (I e0 (I e10 hwt)))))) ?_|refine zx (ht1) ?_|(apply zaa<;>intro hb)|(apply I;exact zI)|(apply I<;>intro hg))
        simp[zaG,zcn,zaK,zaw]
      ·rw[e0,if_pos rfl]at hd0
       rw[hd0]
       have ht1:=hto (s.token+1) T.1 T.2.2 0 (by omega) htn
       have hz:=htz (by have:T.2.2=0:=(by simpa using e0);rw[this];rfl)
       rw[hz]at hta
       repeat'(first|exact zC|(with_reducible first|refine zbd 8 ?_|refine zaR 8 ?_|refine zaS 8 ?_)|refine zu (I h1 (I hx (I h3 (I h4 e0)))) ?_|(with_reducible first|refine zae _ _ ?_)|refine zx (hfi) ?_|refine zx (hrn) ?_|(apply zaa<;>intro hb)|(apply I;exact zI)|(apply I<;>intro hg))
       refine zbf (zbm (Gh.sealF 2 3 (.own ⟨2,4,7⟩ 0 S1.length) ?_) ?_)
       ·exact zo0
       refine zf0 ?_
       repeat'(first|exact zC|(with_reducible first|refine zbd 16 ?_|refine zaR 16 ?_|refine zaS 16 ?_)|refine zu (I h1 (I hx (I h3 (I h4 (I e0 hwt))))) ?_|(with_reducible first|refine zae _ _ ?_)|refine zx (hta) ?_|(apply zaa<;>intro hb)|(apply I;exact zI)|(apply I<;>intro hg))
       refine zbf (zbm (Gh.sealF 2 4 (.own ⟨2,5,8⟩ 0 T.1.length) ?_) ?_)
       ·exact zo0
       refine zf0 ?_
       repeat'(first|exact zC|refine zq (I h1 (I hx (I h3 (I h4 (I e0 hwt))))) ?_|refine zx (ht1) ?_|(apply zaa<;>intro hb)|(apply I;exact zI)|(apply I<;>intro hg))
       simp[zaG,zcn,zaK,zaw]
    ·rw[h3]at hta htl htn htz
     rw[h3,Bool.true_or,if_pos rfl]at hd0
     generalize hT0:zaX s.locks r.name r.client s.token true=T at*
     cases e0:T.2.2==0
     ·cases e10:T.2.2==10
      ·rw[e0,if_neg (by simp),e10,if_neg (by simp)]at hd0
       rw[hd0]
       have ht1:=hto s.token s.locks T.2.2 0 h.locks h.line
       have hz:=htz e10
       rw[hz]at hta
       repeat'(first|exact zC|(with_reducible first|refine zbd 8 ?_|refine zaR 8 ?_|refine zaS 8 ?_)|refine zu (I h1 (I hx (I h3 (I e0 e10)))) ?_|(with_reducible first|refine zae _ _ ?_)|refine zx (hfi) ?_|refine zx (hrn) ?_|(apply zaa<;>intro hb)|(apply I;exact zI)|(apply I<;>intro hg))
       refine zbf (zbm (Gh.sealF 2 3 (.own ⟨2,4,7⟩ 0 S1.length) ?_) ?_)
       ·exact zo0
       refine zf0 ?_
       repeat'(first|exact zC|refine zq (I h1 (I hx (I h3 (I e0 (I e10 hwt))))) ?_|refine zx (hta) ?_|refine zx (ht1) ?_|(apply zaa<;>intro hb)|(apply I;exact zI)|(apply I<;>intro hg))
       simp[zaG,zcn,zaK,zaw]
      ·rw[e0,if_neg (by simp),e10,if_pos rfl]at hd0
       rw[hd0]
       have ht1:=hto s.token T.1 T.2.2 T.2.1 (by omega) htn
       repeat'(first|exact zC|(with_reducible first|refine zbd 8 ?_|refine zaR 8 ?_|refine zaS 8 ?_)|refine zu (I h1 (I hx (I h3 (I e0 e10)))) ?_|(with_reducible first|refine zae _ _ ?_)|refine zx (hfi) ?_|refine zx (hrn) ?_|(apply zaa<;>intro hb)|(apply I;exact zI)|(apply I<;>intro hg))
       refine zbf (zbm (Gh.sealF 2 3 (.own ⟨2,4,7⟩ 0 S1.length) ?_) ?_)
       ·exact zo0
       refine zf0 ?_
       repeat'(first|exact zC|(with_reducible first|refine zbd 16 ?_|refine zaR 16 ?_|refine zaS 16 ?_)|refine zu (I h1 (I hx (I h3 (I e0 (I e10 hwt))))) ?_|(with_reducible first|refine zae _ _ ?_)|refine zx (hta) ?_|(apply zaa<;>intro hb)|(apply I;exact zI)|(apply I<;>intro hg))
       refine zbf (zbm (Gh.sealF 2 4 (.own ⟨2,5,8⟩ 0 T.1.length) ?_) ?_)
       ·exact zo0
       refine zf0 ?_
       repeat'(first|exact zC|refine zq (I h1 (I hx (I h3 (I e0 (I e10 hwt))))) ?_|refine zx (ht1) ?_|(apply zaa<;>intro hb)|(apply I;exact zI)|(apply I<;>intro hg))
       simp[zaG,zcn,zaK,zaw]
     ·rw[e0,if_pos rfl]at hd0
      rw[hd0]
      have ht1:=hto (s.token+1) T.1 T.2.2 0 (by omega) htn
      have hz:=htz (by have:T.2.2=0:=(by simpa using e0);rw[this];rfl)
      rw[hz]at hta
      repeat'(first|exact zC|(with_reducible first|refine zbd 8 ?_|refine zaR 8 ?_|refine zaS 8 ?_)|refine zu (I h1 (I hx (I h3 e0))) ?_|(with_reducible first|refine zae _ _ ?_)|refine zx (hfi) ?_|refine zx (hrn) ?_|(apply zaa<;>intro hb)|(apply I;exact zI)|(apply I<;>intro hg))
      refine zbf (zbm (Gh.sealF 2 3 (.own ⟨2,4,7⟩ 0 S1.length) ?_) ?_)
      ·exact zo0
      refine zf0 ?_
      repeat'(first|exact zC|(with_reducible first|refine zbd 16 ?_|refine zaR 16 ?_|refine zaS 16 ?_)|refine zu (I h1 (I hx (I h3 (I e0 hwt)))) ?_|(with_reducible first|refine zae _ _ ?_)|refine zx (hta) ?_|(apply zaa<;>intro hb)|(apply I;exact zI)|(apply I<;>intro hg))
      refine zbf (zbm (Gh.sealF 2 4 (.own ⟨2,5,8⟩ 0 T.1.length) ?_) ?_)
      ·exact zo0
      refine zf0 ?_
      repeat'(first|exact zC|refine zq (I h1 (I hx (I h3 (I e0 hwt)))) ?_|refine zx (ht1) ?_|(apply zaa<;>intro hb)|(apply I;exact zI)|(apply I<;>intro hg))
      simp[zaG,zcn,zaK,zaw]
   ·have hd:zbu s r=(s,⟨9,0,0,[]⟩):=by unfold zbu;rw[if_neg (by rw[h1];simp),hf];simp only;rw[if_pos hx]
    rw[hd]
    repeat'(first|exact zC|refine zq (I h1 hx) ?_|refine zx (hfi) ?_|(apply zaa<;>intro hb)|(apply I;exact zI)|(apply I<;>intro hg))
    all_goals simp[zaG,zcn,zaK,zaw]
 ·have hop:=ztw s h hr r.client hc
  have hd:zbu s r=zcU s r.client:=by unfold zbu;rw[if_pos h1]
  rw[hd]
  repeat'(first|exact zC|refine zq h1 ?_|refine zx (hfi) ?_|refine zx (hop) ?_|(apply zaa<;>intro hb)|(apply I;exact zI)|(apply I<;>intro hg))
  all_goals simp[zaG,zcn,zaK,zaw]
def zaN (n:Int):Prop:=0≤n∧n<256
theorem zc9 {n:Int} (h:zaN n):IntKind.i64.wrap n=n:=by have:=h;unfold zaN at this;exact wrap64 (by omega) (by omega)
theorem zdM {n:Int} (h:0≤n) (k:Int):n.tmod k=n % k:=Int.tmod_eq_emod_of_nonneg h
def zzr:List ByteArray:=[⟨#[97]⟩,⟨#[98]⟩,⟨#[99]⟩,⟨#[100]⟩,⟨#[107,101,121,45,49]⟩,⟨#[116,104,101,45,108,97,115,116,45,111,110,101]⟩]
def zm7 (n:Int):ByteArray:=(zzr[(n % 6).toNat]?).getD .empty
theorem six (n:Int):n % 6=0∨n % 6=1∨n % 6=2∨n % 6=3∨n % 6=4∨n % 6=5:=by omega
theorem zsU (n:Int) (hn:zaN n):CallOK Tryz.prog 157 [.f (au n)] (fun r o=>r=[.one (.d (sD (zm7 n)))]∧o=[]):=by
 refine zh Tryz.func157 Tryz.results157 Tryz.ntmps157 Tryz.call157 ?_
 simp only[Tryz.f157,Option.getD]
 have hw:=zc9 hn
 have ht:=zdM hn.1 6
 unfold zm7
 rcases six n with h|h|h|h|h|h
 all_goals
  rw[h]at ht⊢
  repeat'(first|(with_reducible first|refine zae _ _ ?_|refine zb8 ?_|refine zb9 ?_)|rw[zbD]|simp only[hw,ht,Int.reduceToNat,List.drop_succ_cons,List.drop_zero,zY,Int.reduceEq,Int.reduceBEq,Int.reduceBNe,Nat.reduceSub,Nat.reduceEqDiff,Nat.reduceAdd,Nat.reduceMul,Nat.reduceLeDiff,Nat.reduceLT,Nat.reduceBEq,reduceCtorEq]|refine za1 ?_|refine zaa (fun hb=> ?_) (fun hb=> ?_)|(refine And.intro ?_ ?_;exact zI)|refine And.intro (fun hg=> ?_) (fun hg=> ?_)|exact zC|fail)
  rfl
def zjY (a:Int):Int:=1+a % 6
def zqF (a b:Int):Int:=if zjY a=1 then 0 else 1+b % 7
def zsV (a c:Int):ByteArray:=if(zjY a==3||zjY a==4||zjY a==5)=true then zm7 c else .empty
theorem zxV (a b c:Int) (ha:zaN a) (hb:zaN b) (hc:zaN c):CallOK Tryz.prog 108 [.f (au a), .f (au b), .f (au c)] (fun r o=>r=[.agg [.d (iD (zjY a)), .d (iD (zqF a b)), .d (sD (zsV a c))]]∧o=[]):=by
 refine zh Tryz.func108 Tryz.results108 Tryz.ntmps108 Tryz.call108 ?_
 simp only[Tryz.f108,Option.getD]
 have hnm:=zsU c hc
 have hwa:=zc9 ha
 have hwb:=zc9 hb
 have hta:=zdM ha.1 6
 have htb:=zdM hb.1 7
 have hws:IntKind.i64.wrap (1+b % 7)=1+b % 7:=wrap64 (by omega) (by omega)
 unfold zsV zqF zjY
 have w1:IntKind.i64.wrap 1=1:=rfl
 have w2:IntKind.i64.wrap 2=2:=rfl
 have w3:IntKind.i64.wrap 3=3:=rfl
 have w4:IntKind.i64.wrap 4=4:=rfl
 have w5:IntKind.i64.wrap 5=5:=rfl
 have w6:IntKind.i64.wrap 6=6:=rfl
 rcases six a with h|h|h|h|h|h
 all_goals
  rw[h]at hta⊢
  repeat'(first|(with_reducible first|refine zae _ _ ?_|refine zb8 ?_|refine zb9 ?_)|rw[zbD]|simp only[hwa,hwb,hta,htb,hws,w1,w2,w3,w4,w5,w6,Int.reduceAdd,Int.reduceEq,Int.reduceBEq,zY,Int.reduceEq,Int.reduceBEq,Int.reduceBNe,Nat.reduceSub,Nat.reduceEqDiff,Nat.reduceAdd,Nat.reduceMul,Nat.reduceLeDiff,Nat.reduceLT,Nat.reduceBEq,reduceCtorEq]|((first|((try refine zaM ?_);apply zaO)|(apply zaZ;intro _));(solve|exact(hnm)|(refine CallOK.le (hnm) ?_;exact zM)|fail);try case hn=>rfl)|refine za1 ?_|refine zaa (fun hb=> ?_) (fun hb=> ?_)|(refine And.intro ?_ ?_;exact zI)|refine And.intro (fun hg=> ?_) (fun hg=> ?_)|exact zC|fail)
structure Act where
 time:Int
 client:Int
 seq:Int
 kind:Int
 session:Int
 name:Int
abbrev Act.enc (a:Act):List D:=[uD a.time,uD a.client,uD a.seq,uD a.kind,uD a.session,uD a.name]
abbrev zlu (l:List Act):List D:=l.flatMap Act.enc
def zon (a:Act):Prop:=zaN a.time∧zaN a.client∧zaN a.seq∧zaN a.kind∧zaN a.session∧zaN a.name
theorem zxW {l:List Act} {i:Nat} (hi:i<l.length):(zlu l).drop (i*6)=l[i].enc++(zlu (l.drop (i+1))):=zc1 _ 6 l i hi fun _=>rfl
theorem zvw {l:List Act}:(zlu l).length=l.length*6:=zcC _ 6 (fun _=>rfl) l
def zzO (c q k s n:Int):Req:=⟨c % 8,1+q,zjY k,zqF k s,zsV k n⟩
theorem zxX (c q k s n:Int) (h1:zaN c) (h2:zaN q) (h3:zaN k) (h4:zaN s) (h5:zaN n):CallOK Tryz.prog 58 [.f (au c), .f (au q), .f (au k), .f (au s), .f (au n)] (fun r o=>r=[.agg ((zzO c q k s n).enc.map RO.d)]∧o=[]):=by
 refine zh Tryz.func58 Tryz.results58 Tryz.ntmps58 Tryz.call58 ?_
 simp only[Tryz.f58,Option.getD]
 have hcm:=zxV k s n h3 h4 h5
 have hwc:=zc9 h1
 have hwq:=zc9 h2
 have htc:=zdM h1.1 8
 have hq1:IntKind.i64.wrap (1+q)=1+q:=by unfold zaN at h2;exact wrap64 (by omega) (by omega)
 repeat'(first|exact zC|refine zq (I hwc (I hwq (I htc hq1))) ?_|refine zx (hcm) ?_|(apply zaa<;>intro hb)|(apply I;exact zI)|(apply I<;>intro hg))
 rfl
theorem zlv (l:List Memo) (hl:l.length<2^62) (c:Int):CallOK Tryz.prog 189 [.f (al l.length (zaF l)), .f (ai c)]
  (fun r o=>r=[.agg (((zce l c).getD zgj).enc.map RO.d),rb (zce l c).isSome]∧o=[]):=by
 refine CallOK.nil ?_
 refine zh Tryz.func189 Tryz.results189 Tryz.ntmps189 Tryz.call189 ?_
 simp only[Tryz.f189,Option.getD]
 repeat'(first|exact zC|refine zq0 ?_|(apply zaa<;>intro hb)|(apply I;exact zI)|(apply I<;>intro hg))
 refine zaf (τ:=Nat) (fun i=>⟨(al l.length (zaF l)::ai c::dq2 (ptq 4::dd::ai i::zug [])),[(4,⟨2,[obq 1 [di 0,di 0,di 0,di 0,di 0, .d (.v (.slice none 0 0))],none,none,none,none,none,none]⟩)]⟩)
  (fun i=>i≤l.length) (fun i=>zce (l.drop i) c) (fun i=>l.length - i) 0
  (Gh.canon [4] [] [] zK rfl rfl) (Nat.zero_le _) ?_
 intro i hi0 hF K hK
 rw[List.drop_zero]at hF
 refine zw ?_
 refine zaa (fun hlt=> ?_) (fun hge=> ?_)
 ·have hi:i<l.length:=by simpa using hlt
  have hat:=zdp hi
  have hw:=zai hi hl
  have hq:zce (l.drop i) c=if(l[i].client==c)=true then some l[i]else zce (l.drop (i+1)) c:=by
   unfold zce
   rw[List.drop_eq_getElem_cons hi,List.find?_cons]
   cases l[i].client==c<;>rfl
  rw[hq]at hF
  repeat'(first|exact zC|refine zq (I hat (I @zaz zca)) ?_|(apply zaa<;>intro hb)|(apply I;exact zI)|(apply I<;>intro hg))
  ·rw[if_pos hb]at hF
   rw[←hF]
   simp[zaG,zcn,zaK,zaw]
  ·rw[if_neg (by rw[hb];simp)]at hq
   exact hK _ (i+1) (Gh.canon [4] [] [] (zk hw) rfl rfl) hi hq.symm (by omega)
 ·have hi:i=l.length:=by
   have:¬(i:Int)<l.length:=by simpa using hge
   omega
  rw[hi,List.drop_length]at hF
  have hF:none=zce l c:=hF
  rw[←hF]
  repeat'(first|exact zC|refine zq0 ?_|(apply zaa<;>intro hb)|(apply I;exact zI)|(apply I<;>intro hg))
  simp[zaG,zcn,zaK,zaw,zgj]
def zui (s:St) (a:Act):Req:=
 let r:=zzO a.client (a.seq % 6) a.kind a.session a.name
 let b1:=(zaC s.sess r.client).isSome&&decide (a.session % 8>0)&&(r.kind !=1)
 let b2:= !(zaC s.sess r.client).isSome&&decide (a.session % 4>0)
 ⟨r.client,if decide (a.seq % 5>0)=true then(if(zce s.memos r.client).isSome=true then((zce s.memos r.client).getD zgj).seq+1 else 1)else r.seq,
  if b2=true then 1 else r.kind,if b2=true then 0 else if b1=true then((zaC s.sess r.client).getD ze7).num else r.session,if b2=true then .empty else r.name⟩
set_option maxHeartbeats 4000000 in
theorem zqG (s:St) (h:Small s) (hr:RightS s) (a:Act) (ha:zon a):CallOK Tryz.prog 160 [.f (.agg s.lent), .f (.agg (a.enc.map C.d))] (fun r o=>r=[.agg ((zui s a).enc.map RO.d)]∧o=[]):=by
 refine zh Tryz.func160 Tryz.results160 Tryz.ntmps160 Tryz.call160 ?_
 simp only[Tryz.f160,Option.getD]
 obtain⟨_,h1,h2,h3,h4,h5⟩:=ha
 have hrq:=zxX a.client (a.seq % 6) a.kind a.session a.name h1 (by unfold zaN;omega) h3 h4 h5
 generalize hN:zzO a.client (a.seq % 6) a.kind a.session a.name=r at*
 have hla:=zlv s.memos (by have:=h.memos;omega) r.client
 have hfi:=zeX s.sess (by have:=h.sess;omega) r.client
 have ht6:=zdM h2.1 6
 have ht5:=zdM h2.1 5
 have ht8:=zdM h4.1 8
 have ht4:=zdM h4.1 4
 have hwm:IntKind.i64.wrap (((zce s.memos r.client).getD zgj).seq+1)=((zce s.memos r.client).getD zgj).seq+1:=by
  have hb:0≤((zce s.memos r.client).getD zgj).seq∧((zce s.memos r.client).getD zgj).seq≤zbs:=by
   cases hf:zce s.memos r.client with
   |none=>decide
   |some m=>
    have:=(zda (hr.mok m (List.mem_of_find?_eq_some hf))).2.1
    simp only[Option.getD_some];omega
  have hH:zbs=2305843009213693952:=rfl
  exact wrap64 (by omega) (by omega)
 have hR:zui s a=⟨r.client,if decide (a.seq % 5>0)=true then(if(zce s.memos r.client).isSome=true then((zce s.memos r.client).getD zgj).seq+1 else 1)else r.seq,
  if(!(zaC s.sess r.client).isSome&&decide (a.session % 4>0))=true then 1 else r.kind,if(!(zaC s.sess r.client).isSome&&decide (a.session % 4>0))=true then 0 else if((zaC s.sess r.client).isSome&&decide (a.session % 8>0)&&(r.kind !=1))=true then((zaC s.sess r.client).getD ze7).num else r.session,
  if(!(zaC s.sess r.client).isSome&&decide (a.session % 4>0))=true then .empty else r.name⟩:=by unfold zui;rw[hN]
 generalize zui s a=R at hR⊢
 repeat'(first|exact zC|refine zq (I ht6 (I ht5 (I ht8 (I ht4 hwm)))) ?_|refine zx (hrq) ?_|refine zx (hla) ?_|refine zx (hfi) ?_|(apply zaa<;>intro hb)|(apply I;exact zI)|(apply I<;>intro hg))
 all_goals clear hrq hla hfi ht6 ht5 ht8 ht4 hwm hN h hr h1 h2 h3 h4 h5
 all_goals subst hR
 all_goals simp only[*,if_true,Bool.false_eq_true,if_false]
theorem zeY (v a:Int):CallOK Tryz.prog 82 [.f (ai v), .f (ai a)] (fun r o=>r=[rb (decide (v≥a)&&decide (v≤2305843009213693952))]∧o=[]):=by
 refine zh Tryz.func82 Tryz.results82 Tryz.ntmps82 Tryz.call82 ?_
 simp only[Tryz.f82,Option.getD]
 repeat'(first|exact zC|refine zq0 ?_|(apply zaa<;>intro hb)|(apply I;exact zI)|(apply I<;>intro hg))
theorem zlN (s:ByteArray) (hs:s.size<2^62):CallOK Tryz.prog 132 [.f (ast s)] (fun r o=>r=[rb (nameP s)]∧o=[]):=by
 refine zh Tryz.func132 Tryz.results132 Tryz.ntmps132 Tryz.call132 ?_
 simp only[Tryz.f132,Option.getD]
 refine zw ?_
 refine zaa (fun hb=> ?_) (fun hb=> ?_)
 ·refine zw ?_
  have:nameP s=false:=by
   unfold nameP
   rw[Bool.and_eq_false_iff];right
   simp only[Bool.or_eq_true,decide_eq_true_eq]at hb
   simp only[Bool.and_eq_false_iff,decide_eq_false_iff_not]
   omega
  rw[this]
 have hsz:(decide ((s.size:Int)≥1)&&decide ((s.size:Int)≤12))=true:=by
  simp only[Bool.or_eq_false_iff,decide_eq_false_iff_not]at hb
  simp only[Bool.and_eq_true,decide_eq_true_eq]
  omega
 refine zw ?_
 refine zit Ty Tryz.prog (τ:=Nat) (fun i=>⟨(ast s::dd::ab false::ai i::zzI []),[]⟩) (fun i=>i≤s.size∧∀j,j<i→zhl (s.data.getD j 0)=true) (fun i=>s.size - i) 0 ?_ ⟨Nat.zero_le _,fun j hj=>absurd hj (Nat.not_lt_zero j)⟩ ?_
 ·refine Gh.fgt ?_
  simp only[ddE,zbi,zbj,zbP,Int.natCast_zero]
 intro i ⟨h1,h2⟩ K hK
 refine zw ?_
 refine zaa (fun hlt=> ?_) (fun hge=> ?_)
 ·have hi:i<s.size:=by simpa using hlt
  refine zw ?_
  refine⟨⟨Int.natCast_nonneg i,by omega⟩, ?_⟩
  refine⟨zpw ?_, ?_⟩
  ·simp_all;omega
  have hok:zhl (s.data.getD i 0)= !((decide (((s.data.getD i 0).toNat:Int)<97)||decide (((s.data.getD i 0).toNat:Int)>122))&&(decide (((s.data.getD i 0).toNat:Int)<48)||decide (((s.data.getD i 0).toNat:Int)>57))&&(((s.data.getD i 0).toNat:Int) !=45)):=rfl
  generalize ((s.data.getD i 0).toNat:Int)=c at hok⊢
  refine zaa (fun hb2=> ?_) (fun hb2=> ?_)
  ·refine zw ?_
   have hn:nameP s=false:=by
    unfold nameP
    rw[show((List.range s.size).all fun j=>zhl (s.data.getD j 0))=false from List.all_eq_false.2 ⟨i,List.mem_range.2 hi,by rw[hok];revert hb2;simp;omega⟩,Bool.false_and]
   rw[hn]
  ·refine zw ?_
   refine hK _ (i+1) (Gh.fgt ?_) ⟨hi,fun j hj=> ?_⟩ (by omega)
   ·simp only[zai hi (by omega),ddE,zbi,zbj,zbP]
   ·rcases Nat.lt_or_ge j i with h|h
    ·exact h2 j h
    ·rw[show j=i from by omega,hok];revert hb2;simp;omega
 ·refine zw ?_
  have hi:i=s.size:=by
   have:¬(i:Int)<s.size:=by simpa using hge
   omega
  have hn:nameP s=true:=by
   unfold nameP
   rw[show((List.range s.size).all fun j=>zhl (s.data.getD j 0))=true from List.all_eq_true.2 fun j hj=>h2 j (by rw[hi];exact List.mem_range.1 hj),Bool.true_and,hsz]
  rw[hn]
theorem ztv (k n:Int) (s:ByteArray) (hs:s.size<2^62):CallOK Tryz.prog 83 [.f (.agg [di k,di n,dS s])] (fun r o=>r=[rb (zlM k n s)]∧o=[]):=by
 refine zh Tryz.func83 Tryz.results83 Tryz.ntmps83 Tryz.call83 ?_
 simp only[Tryz.f83,Option.getD]
 repeat'(first|exact zC|refine za0 ?_|((first|((try refine zaM ?_);apply zaO)|(apply zaZ;intro _));(solve|exact(zlN _ hs)|(refine CallOK.le (zlN _ hs) ?_;exact zM)|fail);try case hn=>rfl)|((first|((try refine zaM ?_);apply zaO)|(apply zaZ;intro _));(solve|exact(zeY _ _)|(refine CallOK.le (zeY _ _) ?_;exact zM)|fail);try case hn=>rfl)|(apply zaa<;>intro hb)|(apply I;exact zI)|(apply I<;>intro hg))
 all_goals refine congrArg (fun b=>[rb b]) ?_
 all_goals simp only[beq_iff_eq,beq_eq_false_iff_ne,ne_eq]at*
 all_goals first
  |(exfalso;omega)
  |(subst_vars;unfold zlM;generalize (s.toList==(⟨#[]⟩:ByteArray).toList)=q;generalize nameP s=p;cases q<;>cases p<;>simp;done)
  |(have e:(decide (k<1)||decide (k>6))=true:=(by simp;omega);unfold zlM;rw[if_pos e])
theorem zqU (r:Req) (hr:r.ok):CallOK Tryz.prog 43 [.f (.agg (r.enc.map C.d))] (fun x o=>x=[rb (Req.may r)]∧o=[]):=by
 refine zh Tryz.func43 Tryz.results43 Tryz.ntmps43 Tryz.call43 ?_
 simp only[Tryz.f43,Option.getD]
 repeat'(first|exact zC|refine za0 ?_|((first|((try refine zaM ?_);apply zaO)|(apply zaZ;intro _));(solve|exact(ztv _ _ _ hr.2.2.2.2)|(refine CallOK.le (ztv _ _ _ hr.2.2.2.2) ?_;exact zM)|fail);try case hn=>rfl)|((first|((try refine zaM ?_);apply zaO)|(apply zaZ;intro _));(solve|exact(zeY _ _)|(refine CallOK.le (zeY _ _) ?_;exact zM)|fail);try case hn=>rfl)|(apply zaa<;>intro hb)|(apply I;exact zI)|(apply I<;>intro hg))
 simp[Req.may,Bool.and_assoc]
theorem zzv:∀(a b:List UInt8),(Go.Op.bytesLess a b||a==b)= !(Go.Op.bytesLess b a)
 |[],[]=>rfl
 |[],y::ys=>rfl
 |x::xs,[]=>rfl
 |x::xs,y::ys=>by
  have ih:=zzv xs ys
  rw[Go.Op.bytesLess,Go.Op.bytesLess]
  rw[show((x::xs:List UInt8)==y::ys)=(x==y&&xs==ys) from rfl]
  have htri:x<y∨x=y∨y<x:=by
   rcases Nat.lt_trichotomy x.toNat y.toNat with h|h|h
   ·exact .inl (UInt8.lt_iff_toNat_lt.2 h)
   ·exact .inr (.inl (UInt8.toNat_inj.1 h))
   ·exact .inr (.inr (UInt8.lt_iff_toNat_lt.2 h))
  rcases htri with h|h|h
  ·have h2:¬y<x:=UInt8.lt_asymm h
   have h3:(y==x)=false:=by simp;intro e;subst e;exact absurd h (UInt8.lt_irrefl _)
   simp[h,h2,h3]
  ·subst h
   have h2:¬x<x:=UInt8.lt_irrefl _
   simp only[h2,decide_false,Bool.false_or,beq_self_eq_true,Bool.true_and]
   exact ih
  ·have h2:¬x<y:=UInt8.lt_asymm h
   have h3:(x==y)=false:=by simp;intro e;subst e;exact absurd h (UInt8.lt_irrefl _)
   simp[h,h2,h3]
def zvF (r:Reply):Bool:=decide (r.code<0)||decide (r.code>12)|| !(decide (r.session≥0)&&decide (r.session≤2305843009213693952))||decide (r.ahead<0)||decide (r.ahead>3)||decide ((r.held.length:Int)>4)||r.session==0&&decide ((r.held.length:Int)>0)
theorem zjy (r:Reply):zbU r=(!(zvF r)&&zbA (zcs r.held) 0 r.held):=by
 have h1:(decide (r.session≥0)&&decide (r.session≤2305843009213693952))= !(decide (r.session<0)||decide (r.session>zbs)):=by
  have hH:zbs=2305843009213693952:=rfl
  rw[Bool.eq_iff_iff];simp[hH]
 unfold zbU zvF
 rw[h1]
 generalize decide (r.code<0)=a1
 generalize decide (r.code>12)=a2
 generalize decide (r.session<0)=a3
 generalize decide (r.session>zbs)=a4
 generalize decide (r.ahead<0)=a5
 generalize decide (r.ahead>3)=a6
 generalize decide ((r.held.length:Int)>4)=a7
 generalize (r.session==0)=a8
 generalize decide ((r.held.length:Int)>0)=a9
 generalize zbA (zcs r.held) 0 r.held=a0
 cases a1<;>cases a2<;>cases a3<;>cases a4<;>cases a5<;>cases a6<;>first|rfl|(cases a7<;>cases a8<;>cases a9<;>rfl)
set_option maxHeartbeats 2000000 in
theorem zno (r:Reply) (hr:zcf r):CallOK Tryz.prog 84 [.f (.agg r.lent)] (fun x o=>x=[rb (zbU r)]∧o=[]):=by
 refine zh Tryz.func84 Tryz.results84 Tryz.ntmps84 Tryz.call84 ?_
 simp only[Tryz.f84,Option.getD]
 obtain⟨h1,h2⟩:=hr
 have hh:=zeY r.session 0
 repeat'(first|exact zC|refine zq0 ?_|refine zx (hh) ?_|(apply zaa<;>intro hb)|(apply I;exact zI)|(apply I<;>intro hg))
 ·rw[zjy,show zvF r=true from hb];rfl
 ·have hs:zbU r=zbA (zcs r.held) 0 r.held:=by rw[zjy,show zvF r=false from hb];rfl
  rw[hs]
  clear hb
  refine zaf (τ:=Nat) (fun i=>⟨(dd::ptq 1::dd::ai i::zdP (zdP [])),[(1,⟨2,[obq 1 [di r.code,di r.session,di r.ahead, .lent r.held.length (zaE r.held)],none,none,none,none]⟩),(4,⟨2,[]⟩)]⟩)
   (fun i=>i≤r.held.length) (fun i=>zbA (zcs r.held) i (r.held.drop i)) (fun i=>r.held.length - i) 0
   (Gh.canon [1] [4] [] zK rfl rfl) (Nat.zero_le _) ?_
  intro i hi0 hF K hK
  rw[List.drop_zero]at hF
  refine zw ?_
  refine zaa (fun hlt=> ?_) (fun hge=> ?_)
  ·have hi:i<r.held.length:=by simpa using hlt
   have hat:=zco hi
   have hw:=zai hi (by omega)
   rw[zaT hi]at hF
   have hnm:=zlN r.held[i].name (h2 _ (List.getElem_mem hi))
   have hhg:=zeY r.held[i].token 1
   have hH:(decide (r.held[i].token≥1)&&decide (r.held[i].token≤2305843009213693952))= !(decide (r.held[i].token<1)||decide (r.held[i].token>zbs)):=by
    have hH:zbs=2305843009213693952:=rfl
    rw[Bool.eq_iff_iff];simp[hH]
   cases e0:decide ((i:Int)>0)
   ·have h0:i=0:=by simpa using e0
    have hq:zcs r.held i r.held[i]= !(!nameP r.held[i].name|| !(decide (r.held[i].token≥1)&&decide (r.held[i].token≤2305843009213693952))):=by
     unfold zcs
     have:decide (i>0)=false:=by simpa using e0
     rw[this,Bool.false_and,Bool.or_false,hH,Bool.not_not,Bool.or_assoc]
    have hp:(zaE r.held).drop ((IntKind.i64.wrap ((i:Int) - 1)).toNat*2)=r.held[i].enc++zaE (r.held.drop (i+1)):=by
     rw[←zco hi,h0];rfl
    repeat'(first|exact zC|refine zq (I hat (I hp (I e0 (I @zaq zca)))) ?_|refine zx (hnm) ?_|refine zx (hhg) ?_|(apply zaa<;>intro hb)|(apply I;exact zI)|(apply I<;>intro hg))
    ·rw[hq,hb,if_neg (by simp)]at hF
     rw[←hF]
    ·exact hK _ (i+1) (Gh.canon [1] [] [] (zk hw) rfl rfl) hi (by rw[zaT hi,hq,hb];rfl) (by omega)
   ·have h0:0<i:=by simpa using e0
    have hq:zcs r.held i r.held[i]= !(!nameP r.held[i].name|| !(decide (r.held[i].token≥1)&&decide (r.held[i].token≤2305843009213693952))||(Go.Op.bytesLess r.held[i].name.toList (r.held[i - 1]'(by omega)).name.toList||r.held[i].name.toList==(r.held[i - 1]'(by omega)).name.toList)):=by
     rw[zzv]
     unfold zcs zqO
     have:decide (i>0)=true:=by simpa using e0
     rw[this,List.getElem?_eq_getElem (by omega),hH,Bool.not_not]
     simp only[Bool.true_and,Option.map_some,Option.getD_some,Bool.or_assoc]
    have hp:=zco (show i - 1<r.held.length by omega)
    have hw1:IntKind.i64.wrap ((i:Int) - 1)=((i - 1:Nat):Int):=by rw[wrap64 (by omega) (by omega)];omega
    repeat'(first|exact zC|refine zq (I hat (I hp (I hw1 (I e0 (I @zaq zca))))) ?_|refine zx (hnm) ?_|refine zx (hhg) ?_|(apply zaa<;>intro hb)|(apply I;exact zI)|(apply I<;>intro hg))
    ·rw[hq,hb,if_neg (by simp)]at hF
     rw[←hF]
    ·exact hK _ (i+1) (Gh.canon [1] [] [] (zk hw) rfl rfl) hi (by rw[zaT hi,hq,hb];rfl) (by omega)
  ·have hi:i=r.held.length:=by
    have:¬(i:Int)<r.held.length:=by simpa using hge
    omega
   rw[zdW hi]at hF
   rw[←hF]
   repeat'(first|exact zC|refine zq0 ?_|(apply zaa<;>intro hb)|(apply I;exact zI)|(apply I<;>intro hg))
theorem zlO (m:Memo) (hr:zcf m.reply):CallOK Tryz.prog 44 [.f (.agg m.lent)] (fun x o=>x=[rb (answerB m)]∧o=[]):=by
 refine zh Tryz.func44 Tryz.results44 Tryz.ntmps44 Tryz.call44 ?_
 simp only[Tryz.f44,Option.getD]
 have hh:=zeY m.seq 1
 repeat'(first|exact zC|refine zq0 ?_|refine zx (hh) ?_|refine zx (zno m.reply hr) ?_|(apply zaa<;>intro hb)|(apply I;exact zI)|(apply I<;>intro hg))
 simp[answerB,Bool.and_assoc]
theorem znm (l:List Memo) (hl:l.length<2^62) (c q:Int):CallOK Tryz.prog 188 [.f (al l.length (zaF l)), .f (ai c), .f (ai q)] (fun r o=>r=[ri (zdb l c q)]∧o=[]):=by
 refine zh Tryz.func188 Tryz.results188 Tryz.ntmps188 Tryz.call188 ?_
 simp only[Tryz.f188,Option.getD]
 have hla:=zlv l hl c
 cases hf:zce l c with
 |none=>
  rw[hf]at hla
  simp only[Option.isSome_none,Option.getD_none]at hla
  have:zdb l c q=1:=by unfold zdb;rw[hf]
  rw[this]
  repeat'(first|exact zC|refine zq0 ?_|refine zx (hla) ?_|(apply zaa<;>intro hb)|(apply I;exact zI)|(apply I<;>intro hg))
 |some m=>
  rw[hf]at hla
  simp only[Option.isSome_some,Option.getD_some]at hla
  have:zdb l c q=if decide (m.seq<q)=true then 1 else if(m.seq==q)=true then 0 else -1:=by unfold zdb;rw[hf];simp only[decide_eq_true_eq,beq_iff_eq]
  rw[this]
  cases h1:decide (m.seq<q)
  ·cases h2:(m.seq==q)
   ·repeat'(first|exact zC|refine zq (I h1 h2) ?_|refine zx (hla) ?_|(apply zaa<;>intro hb)|(apply I;exact zI)|(apply I<;>intro hg))
   ·repeat'(first|exact zC|refine zq (I h1 h2) ?_|refine zx (hla) ?_|(apply zaa<;>intro hb)|(apply I;exact zI)|(apply I<;>intro hg))
  ·repeat'(first|exact zC|refine zq h1 ?_|refine zx (hla) ?_|(apply zaa<;>intro hb)|(apply I;exact zI)|(apply I<;>intro hg))
def kR (a:Memo):List Memo→Bool→List Memo
 |[],put=>if put=true then []else [a]
 |m::r,put=>if(m.client==a.client)=true then a::kR a r true else if(!put&&decide (m.client>a.client))=true then a::m::kR a r true else m::kR a r put
theorem zoy {a:Memo}:∀{l:List Memo},(∀m∈l,(m.client==a.client)=false)→kR a l true=l
 |[],_=>rfl
 |m::r,h=>by
  rw[kR,if_neg (by rw[h m List.mem_cons_self];simp),if_neg (by simp),zoy fun x hx=>h x (List.mem_cons_of_mem _ hx)]
theorem zts {a:Memo}:∀{l:List Memo},SM l→kR a l false=if(zce l a.client).isSome=true then l.set (znM l a.client) a else l.take (znM l a.client)++a::l.drop (znM l a.client)
 |[],_=>rfl
 |m::r,hs=>by
  have hs':=List.pairwise_cons.1 hs
  rw[kR]
  by_cases h1:m.client=a.client
  ·have hp:znM (m::r) a.client=0:=by unfold znM;rw[zdd,if_neg (by simp;omega)]
   have hf:(zce (m::r) a.client).isSome=true:=by unfold zce;rw[List.find?_cons_of_pos (by simpa using h1)];rfl
   rw[if_pos (by simpa using h1),if_pos hf,hp,List.set_cons_zero,zoy fun x hx=>by have:=hs'.1 x hx;simp;omega]
  ·rw[if_neg (by simpa using h1)]
   by_cases h2:m.client>a.client
   ·have hp:znM (m::r) a.client=0:=by unfold znM;rw[zdd,if_neg (by simp;omega)]
    have hf:(zce (m::r) a.client).isSome=false:=by
     rw[Option.isSome_eq_false_iff,Option.isNone_iff_eq_none]
     refine List.find?_eq_none.2 fun x hx=> ?_
     rcases List.mem_cons.1 hx with rfl|hx
     ·simpa using h1
     ·have:=hs'.1 x hx;simp;omega
    rw[if_pos (by simpa using h2),hf,if_neg (by simp),hp,zoy fun x hx=>by have:=hs'.1 x hx;simp;omega]
    rfl
   ·have hp:znM (m::r) a.client=znM r a.client+1:=by unfold znM;rw[zdd,if_pos (by simp;omega)]
    have hf:zce (m::r) a.client=zce r a.client:=by unfold zce;rw[List.find?_cons_of_neg (by simpa using h1)]
    rw[if_neg (by simpa using h2),zts hs'.2,hf,hp]
    split<;>rfl
theorem zx3 {a:Memo} {l:List Memo} {i:Nat} {put:Bool} (hi:i<l.length):kR a (l.drop i) put=if(l[i].client==a.client)=true then a::kR a (l.drop (i+1)) true else if(!put&&decide (l[i].client>a.client))=true then a::l[i]::kR a (l.drop (i+1)) true else l[i]::kR a (l.drop (i+1)) put:=by
 rw[List.drop_eq_getElem_cons hi,kR]
abbrev zCP (a:Memo):List C:=[di a.client,di a.seq,di a.reply.code,di a.reply.session,di a.reply.ahead, .d (.sl a.reply.held.length (zaE a.reply.held))]
set_option maxHeartbeats 2000000 in
theorem zvE (l:List Memo) (hs:SM l) (hl:l.length<2^30) (a:Memo) (ha:answerB a=true) (har:zcf a.reply) (hf:zdb l a.client a.seq=1):
  CallOK Tryz.prog 191 [.f (al l.length (zaF l)), .f (.agg (a.enc.map C.d))] (fun r o=>r=[.one (.own 6 (zlC l a).length (zaF (zlC l a)) false)]∧o=[]):=by
 refine CallOK.nil ?_
 have hk:zlC l a=kR a l false:=by
  rw[zts hs]
  unfold zlC
  rw[if_neg (by rw[ha,hf];simp)]
 rw[hk]
 refine zh Tryz.func191 Tryz.results191 Tryz.ntmps191 Tryz.call191 ?_
 simp only[Tryz.f191,Option.getD]
 have hma:=zlO a har
 rw[ha]at hma
 have hfr:=znm l (by omega) a.client a.seq
 rw[hf]at hfr
 have h11:((1:Int) !=1)=false:=rfl
 repeat'(first|exact zC|refine zq h11 ?_|refine zx (hma) ?_|refine zx (hfr) ?_|(apply zaa<;>intro hb)|(apply I;exact zI)|(apply I<;>intro hg))
 refine zaf (τ:=Nat×Bool×List Memo) (fun t=>⟨(al l.length (zaF l)::dq2 (ptq 3::dd::ptq 5:: .one (.own ⟨6,1,1⟩ 0 t.2.2.length)::ab t.2.1::ai t.1::zw5 (zdP []))),
   [(3,⟨2,[obq 1 [di a.client,di a.seq,di a.reply.code,di a.reply.session,di a.reply.ahead, .d (.sl a.reply.held.length (zaE a.reply.held))],none,none,none,none,none,none]⟩),(5,⟨2,[obq 1 [di a.client,di a.seq,di a.reply.code,di a.reply.session,di a.reply.ahead, .d (.sl a.reply.held.length (zaE a.reply.held))],none,none,none,none,none,none]⟩),(6,⟨2,[none,roq 1 6 (zaF t.2.2)]⟩),(47,⟨2,[]⟩),(48,⟨2,[]⟩),(63,⟨2,[]⟩),(64,⟨2,[]⟩),(70,⟨2,[]⟩),(71,⟨2,[]⟩)]⟩)
  (fun t=>t.1≤l.length∧t.2.2.length≤t.1+1+1∧(t.2.1=false→t.2.2.length≤t.1)) (fun t=>t.2.2++kR a (l.drop t.1) t.2.1) (fun t=>l.length - t.1) (0,false,[])
  ((Gh.nil (i:=6) (s:=6) (sz:=6) rfl).trans (Gh.canon [3,5,6] [47,48,63,64,70,71] [] zK rfl rfl)) ⟨Nat.zero_le _,by simp,by simp⟩ ?_
 rintro⟨i,put,m⟩ ⟨hi0,hm1,hm2⟩ hF K hK
 simp only[List.drop_zero,List.nil_append]at hi0 hm1 hm2 hF hK⊢
 refine zw ?_
 refine zaa (fun hlt=> ?_) (fun hge=> ?_)
 ·have hi:i<l.length:=by simpa using hlt
  have hat:=zdp hi
  have hw:=zai hi (by omega)
  have hd:=zx3 (a:=a) (put:=put) hi
  have hb1:((m.length+1)*64≤2^47)=True:=eq_true (by omega)
  have hb2:((m.length+1+1)*64≤2^47)=True:=eq_true (by omega)
  have hsA:zaF m++[iD a.client,iD a.seq,iD a.reply.code,iD a.reply.session,iD a.reply.ahead, .sl a.reply.held.length (zaE a.reply.held)]=zaF (m++[a]):=by rw[zd1]
  cases h1:(l[i].client==a.client)
  ·rw[if_neg (by rw[h1];simp)]at hd
   cases h2:(!put&&decide (l[i].client>a.client))
   ·rw[h2,if_neg (by simp)]at hd
    have hsB:zaF m++[iD l[i].client,iD l[i].seq,iD l[i].reply.code,iD l[i].reply.session,iD l[i].reply.ahead, .sl l[i].reply.held.length (zaE l[i].reply.held)]=zaF (m++[l[i]]):=by rw[zd1]
    repeat'(first|exact zC|refine zq (I hat (I h1 (I h2 (I hb1 (I hsB (I @zaz zca)))))) ?_|(apply zaa<;>intro hb)|(apply I;exact zI)|(apply I<;>intro hg))
    exact hK _ (i+1,put,m++[l[i]]) (Gh.canon [3,5,6] [] [] (zk (I hw (I @List.length_append.{0} @List.length_singleton.{0}))) rfl rfl) ⟨hi,by simp;omega,fun hp=>by have:=hm2 hp;simp;omega⟩ (by simp only;rw[hd];simp) (by simp only;omega)
   ·rw[h2,if_pos rfl]at hd
    have hsB:zaF (m++[a])++[iD l[i].client,iD l[i].seq,iD l[i].reply.code,iD l[i].reply.session,iD l[i].reply.ahead, .sl l[i].reply.held.length (zaE l[i].reply.held)]=zaF (m++[a]++[l[i]]):=by rw[zd1 (l:=m++[a])]
    have htA:(zaF (m++[a])).take ((m.length+1)*6)=zaF (m++[a]):=by have:=zcv (l:=m++[a]);rwa[List.length_append,List.length_singleton]at this
    repeat'(first|exact zC|refine zq (I hat (I h1 (I h2 (I hb1 (I hb2 (I hsA (I htA (I hsB (I @zaz zca))))))))) ?_|(apply zaa<;>intro hb)|(apply I;exact zI)|(apply I<;>intro hg))
    have hpf:put=false:=by cases put;rfl;simp at h2
    have hm3:=hm2 hpf
    exact hK _ (i+1,true,m++[a]++[l[i]]) (Gh.canon [3,5,6] [] [] (zk (I hw (I @List.length_append.{0} @List.length_singleton.{0}))) rfl rfl) ⟨hi,by simp;omega,fun hp=>by cases hp⟩ (by simp only;rw[hd];simp) (by simp only;omega)
  ·rw[if_pos h1]at hd
   repeat'(first|exact zC|refine zq (I hat (I h1 (I hb1 (I hsA (I @zaz zca))))) ?_|(apply zaa<;>intro hb)|(apply I;exact zI)|(apply I<;>intro hg))
   exact hK _ (i+1,true,m++[a]) (Gh.canon [3,5,6] [] [] (zk (I hw (I @List.length_append.{0} @List.length_singleton.{0}))) rfl rfl) ⟨hi,by simp;omega,fun hp=>by cases hp⟩ (by simp only;rw[hd];simp) (by simp only;omega)
 ·have hi:i=l.length:=by
   have:¬(i:Int)<l.length:=by simpa using hge
   omega
  subst hi
  rw[List.drop_length,kR]at hF
  have hb1:((m.length+1)*64≤2^47)=True:=eq_true (by omega)
  have hsA:zaF m++[iD a.client,iD a.seq,iD a.reply.code,iD a.reply.session,iD a.reply.ahead, .sl a.reply.held.length (zaE a.reply.held)]=zaF (m++[a]):=by rw[zd1]
  cases put
  ·repeat'(first|exact zC|refine zq (I hb1 (I hsA (I @zaz zca))) ?_|(apply zaa<;>intro hb)|(apply I;exact zI)|(apply I<;>intro hg))
   have hF':m++[a]=kR a l false:=hF
   rw[←hF']
   show zaw _ _∧True
   simp[zaw]
  ·repeat'(first|exact zC|refine zq (I hb1 hsA) ?_|(apply zaa<;>intro hb)|(apply I;exact zI)|(apply I<;>intro hg))
   have hF':m=kR a l false:=by rw[←hF];simp
   rw[←hF']
   show zaw _ _∧True
   simp[zaw]
theorem znn (l:List Memo) (c q:Int):zdb l c q=1∨zdb l c q=0∨zdb l c q= -1:=by
 unfold zdb
 cases zce l c with
 |none=>exact .inl rfl
 |some m=>simp only;split;exact .inl rfl;split;exact .inr (.inl rfl);exact .inr (.inr rfl)
abbrev ztt (a:Reply):RF:= .agg [.d (iD a.code), .d (iD a.session), .d (iD a.ahead), .d (.sl a.held.length (zaE a.held))]
set_option maxHeartbeats 4000000 in
theorem ztu (s:St) (h:Small s) (hr:RightS s) (r:Req) (hro:r.ok) (hdr:Req.may r=true→answerB ⟨r.client,r.seq,(zbu s r).2⟩=true) (hdo:Req.may r=true→zcf (zbu s r).2):
  CallOK Tryz.prog 159 [.f (zxY s), .f (.agg (r.enc.map C.d))]
  (fun x o=>x=[zyz (zeI s r).1,ztt (zeI s r).2.1,rb (zeI s r).2.2]∧o=[]):=by
 refine CallOK.nil ?_
 refine zh Tryz.func159 Tryz.results159 Tryz.ntmps159 Tryz.call159 ?_
 simp only[Tryz.f159,Option.getD]
 have hmr:=zqU r hro
 have hfr:=znm s.memos (by have:=h.memos;omega) r.client r.seq
 cases hm:Req.may r
 ·rw[hm]at hmr
  have ha:zeI s r=(s,⟨1,0,0,[]⟩,false):=by unfold zeI;rw[if_pos (by rw[hm];rfl)]
  rw[ha]
  repeat'(first|exact zC|refine zq0 ?_|refine zx (hmr) ?_|(apply zaa<;>intro hb)|(apply I;exact zI)|(apply I<;>intro hg))
  simp[zaG,zcn,zaK,zaw]
 ·rw[hm]at hmr
  have hap:zeI s r=if decide (zdb s.memos r.client r.seq<0)=true then(s,⟨0,0,0,[]⟩,false)else if(zdb s.memos r.client r.seq==0)=true then(s,((zce s.memos r.client).map Memo.reply).getD ⟨0,0,0,[]⟩,false)else
    ({(zbu s r).1 with memos:=zlC (zbu s r).1.memos ⟨r.client,r.seq,(zbu s r).2⟩},(zbu s r).2,true):=by
   unfold zeI
   rw[if_neg (by rw[hm];simp)]
   have hc:=znn s.memos r.client r.seq
   rcases hc with e|e|e<;>rw[e]<;>rfl
  cases f1:decide (zdb s.memos r.client r.seq<0)
  ·rw[if_neg (by rw[f1];simp)]at hap
   cases f2:(zdb s.memos r.client r.seq==0)
   ·rw[if_neg (by rw[f2];simp)]at hap
    rw[hap]
    have hdn:=zvG s h hr r hro hm
    have hdm:=zqH h r
    have hf1:zdb s.memos r.client r.seq=1:=by
     rcases znn s.memos r.client r.seq with e|e|e
     ·exact e
     ·rw[e]at f2;cases f2
     ·rw[e]at f1;cases f1
    have hke:=zvE s.memos hr.ms h.memos ⟨r.client,r.seq,(zbu s r).2⟩ (hdr hm) (hdo hm) hf1
    rw[hdm]
    repeat'(first|exact zC|(with_reducible first|refine zbd 10 ?_|refine zaR 10 ?_|refine zaS 10 ?_)|refine zu (I f1 (I f2 hdm)) ?_|(with_reducible first|refine zae _ _ ?_)|refine zx (hmr) ?_|refine zx (hfr) ?_|refine zx (hdn) ?_|(apply zaa<;>intro hb)|(apply I;exact zI)|(apply I<;>intro hg))
    refine zbf (zbm (Gh.sealF 11 3 (.own ⟨11,4,4⟩ 0 (zbu s r).2.held.length) ?_) ?_)
    ·exact zo0
    refine zf0 ?_
    repeat'(first|exact zC|(with_reducible first|refine zbd 11 ?_|refine zaR 11 ?_|refine zaS 11 ?_)|refine zu hdm ?_|(with_reducible first|refine zae _ _ ?_)|refine zx (hke) ?_|(apply zaa<;>intro hb)|(apply I;exact zI)|(apply I<;>intro hg))
    refine zbf (zbm (Gh.sealF 10 5 (.own ⟨10,6,7⟩ 0 (zlC s.memos ⟨r.client,r.seq,(zbu s r).2⟩).length) ?_) ?_)
    ·exact zo0
    refine zf0 ?_
    repeat'(first|exact zC|refine zq hdm ?_|(apply zaa<;>intro hb)|(apply I;exact zI)|(apply I<;>intro hg))
    simp[zaG,zcn,zaK,zaw]
   ·rw[if_pos f2]at hap
    rw[hap]
    have hla:=zlv s.memos (by have:=h.memos;omega) r.client
    repeat'(first|exact zC|refine zq (I f1 f2) ?_|refine zx (hmr) ?_|refine zx (hfr) ?_|refine zx (hla) ?_|(apply zaa<;>intro hb)|(apply I;exact zI)|(apply I<;>intro hg))
    cases hfm:zce s.memos r.client with
    |none=>unfold zdb at f2;rw[hfm]at f2;cases f2
    |some m=>simp[zaG,zcn,zaK,zaw]
  ·rw[if_pos f1]at hap
   rw[hap]
   repeat'(first|exact zC|refine zq f1 ?_|refine zx (hmr) ?_|refine zx (hfr) ?_|(apply zaa<;>intro hb)|(apply I;exact zI)|(apply I<;>intro hg))
   simp[zaG,zcn,zaK,zaw]
theorem zlt {T:Nat→Option TI} {P:Program} {x:Code} {g g':G} {Q:Ex→G→Prop} (h:Gh g g') (hl:zqw T P x g' Q):zqw T P x g Q:=by
 obtain⟨I,n0,⟨g0,h1,h2⟩,h3⟩:=hl
 exact⟨I,n0,⟨g0,h.trans h1,h2⟩,h3⟩
def sameI (a b:List Int):Bool:=(a.length==b.length)&&((a.zip b).all fun p=>p.1==p.2)
theorem zom (a b:List Int) (ha:a.length<2^62) (hb:b.length<2^62):CallOK Tryz.prog 185 [.f (al a.length (zaB a)), .f (al b.length (zaB b))] (fun r o=>r=[rb (sameI a b)]∧o=[]):=by
 refine zh Tryz.func185 Tryz.results185 Tryz.ntmps185 Tryz.call185 ?_
 simp only[Tryz.f185,Option.getD]
 cases hl:((a.length:Int) !=(b.length:Int))
 ·have hle:a.length=b.length:=by simp at hl;omega
  have hs:sameI a b=(a.zip b).all fun p=>p.1==p.2:=by unfold sameI;rw[hle];simp
  rw[hs]
  repeat'(first|exact zC|refine zq hl ?_|(apply zaa<;>intro hb)|(apply I;exact zI)|(apply I<;>intro hg))
  refine zaf (τ:=Nat) (fun i=>⟨(al a.length (zaB a)::al b.length (zaB b)::dq3 (ai i::zry [])),[]⟩)
   (fun i=>i≤a.length) (fun i=>((a.drop i).zip (b.drop i)).all fun p=>p.1==p.2) (fun i=>a.length - i) 0
   (Gh.canon [] [] [] zK rfl rfl) (Nat.zero_le _) ?_
  intro i hi0 hF K hK
  rw[List.drop_zero,List.drop_zero]at hF
  refine zw ?_
  refine zaa (fun hlt=> ?_) (fun hge=> ?_)
  ·have hi:i<a.length:=by simpa using hlt
   have hib:i<b.length:=by omega
   have hat:=zcu hi
   have hbt:=zcu hib
   have hw:=zai hi ha
   have hq:(((a.drop i).zip (b.drop i)).all fun p=>p.1==p.2)=((a[i]==b[i])&&(((a.drop (i+1)).zip (b.drop (i+1))).all fun p=>p.1==p.2)):=by
    rw[List.drop_eq_getElem_cons hi,List.drop_eq_getElem_cons hib,List.zip_cons_cons,List.all_cons]
   rw[hq]at hF
   cases he:a[i] !=b[i]
   ·have he':(a[i]==b[i])=true:=by simpa using he
    rw[he',Bool.true_and]at hq
    repeat'(first|exact zC|refine zq (I hat (I hbt (I he (I @zaA zca)))) ?_|(apply zaa<;>intro hb)|(apply I;exact zI)|(apply I<;>intro hg))
    exact hK _ (i+1) (Gh.canon [] [] [] (zk hw) rfl rfl) hi hq.symm (by omega)
   ·have he':(a[i]==b[i])=false:=by simpa using he
    rw[he',Bool.false_and]at hF
    repeat'(first|exact zC|refine zq (I hat (I hbt (I he (I @zaA zca)))) ?_|(apply zaa<;>intro hb)|(apply I;exact zI)|(apply I<;>intro hg))
    rw[←hF]
  ·have hi:i=a.length:=by
    have:¬(i:Int)<a.length:=by simpa using hge
    omega
   rw[hi,List.drop_length,List.zip_nil_left,List.all_nil]at hF
   rw[←hF]
   repeat'(first|exact zC|refine zq0 ?_|(apply zaa<;>intro hb)|(apply I;exact zI)|(apply I<;>intro hg))
 ·have hs:sameI a b=false:=by
   have:(a.length==b.length)=false:=by simp at hl⊢;omega
   unfold sameI;rw[this];rfl
  rw[hs]
  repeat'(first|exact zC|refine zq hl ?_|(apply zaa<;>intro hb)|(apply I;exact zI)|(apply I<;>intro hg))
def st0:St:=⟨0,0,0,[],[],[]⟩
def rq0:Req:=⟨3,1,1,0, .empty⟩
theorem zm6:RightS st0:=zdV.1 rfl
def st1:St:=⟨0,1,0,[⟨3,1,0⟩],[],[⟨3,1,⟨0,1,0,[]⟩⟩]⟩
theorem zqE (n:Int):(zm7 n).size≤12:=by
 unfold zm7
 rcases six n with h|h|h|h|h|h<;>rw[h]<;>decide
theorem zxT {s:St} (hr:RightS s) {a:Act} (ha:zon a):(zui s a).ok:=by
 obtain⟨_,h1,h2,h3,h4,h5⟩:=ha
 unfold zaN at*
 have hH:zbs=2305843009213693952:=rfl
 have hsq:∀c,0≤((zce s.memos c).getD zgj).seq∧((zce s.memos c).getD zgj).seq≤zbs:=fun c=>by
  cases hf:zce s.memos c with
  |none=>decide
  |some m=>
   have:=(zda (hr.mok m (List.mem_of_find?_eq_some hf))).2.1
   simp only[Option.getD_some];omega
 have hnm:∀c,0≤((zaC s.sess c).getD ze7).num∧((zaC s.sess c).getD ze7).num≤zbs:=fun c=>by
  cases hf:zaC s.sess c with
  |none=>decide
  |some m=>
   have:=(zcW.1 (hr.sok m (List.mem_of_find?_eq_some hf)).1).2.1
   simp only[Option.getD_some];omega
 have hk:1≤zjY a.kind∧zjY a.kind≤6:=by unfold zjY;omega
 have hs:0≤zqF a.kind a.session∧zqF a.kind a.session≤7:=by unfold zqF;split<;>omega
 have hn:(zsV a.kind a.name).size≤12:=by
  unfold zsV
  split
  ·exact zqE _
  ·decide
 unfold zui Req.ok i64 zzO
 simp only
 have:=hsq (a.client % 8)
 have:=hnm (a.client % 8)
 refine⟨by omega, ?_, ?_, ?_, ?_⟩
 ·split
  ·split<;>omega
  ·omega
 ·split<;>omega
 ·split
  ·omega
  ·split<;>omega
 ·split
  ·decide
  ·omega
def zvv (s:St) (a:Act):St:=(zeI (zcz s (s.time+a.time % 16) 60) (zui (zcz s (s.time+a.time % 16) 60) a)).1
def zm4:List Act→St→St
 |[],s=>s
 |a::r,s=>zm4 r (zvv s a)
structure Mk (s:St) (i:Nat):Prop where
 rt:RightS s
 num:s.num≤i
 tok:s.token≤8*i
theorem zsR {s:St} {i:Nat} (h:Mk s i) (hi:i≤1000) (a:Act):Mk (zvv s a) (i+1):=by
 have hH:zbs=2305843009213693952:=rfl
 obtain⟨h1,h2,h3⟩:=h
 obtain⟨r1,r2,r3,r4,r5⟩:=zhi h1 (s.time+a.time % 16) 60 (by omega)
 unfold zvv
 obtain⟨d1,d2,d3,d4,d5⟩:=zop r1 (zui (zcz s (s.time+a.time % 16) 60) a) (by omega) (by omega)
 exact⟨d1,by omega,by omega⟩
theorem zsS:∀{l:List Act} {s:St} {i:Nat},Mk s i→i+l.length≤1000→Mk (zm4 l s) (i+l.length)
 |[],_,_,h,_=>h
 |a::l,s,i,h,hi=>by
  simp only[List.length_cons]at hi⊢
  have:=zsS (l:=l) (zsR h (by omega) a) (by omega)
  rwa[show i+1+l.length=i+(l.length+1) by omega]at this
abbrev zm5 (acts:List Act):St:=zm4 (acts.take 60) st0
theorem zpG (acts:List Act):Mk (zm5 acts) 60:=by
 have h:=zsS (l:=acts.take 60) (s:=st0) (i:=0) ⟨zm6,by decide,by decide⟩ (by simp;omega)
 have hl:(acts.take 60).length≤60:=by simp;omega
 exact⟨h.rt,by have:=h.num;show(zm4 (acts.take 60) st0).num≤_;omega,by have:=h.tok;show(zm4 (acts.take 60) st0).token≤_;omega⟩
set_option maxHeartbeats 4000000 in
theorem zxU (acts:List Act) (hl:acts.length<2^60) (ha:∀a∈acts,zon a):CallOK Tryz.prog 110 [.f (al acts.length (zlu acts))] (fun r o=>r=[zyz (zm5 acts)]∧o=[]):=by
 refine CallOK.nil ?_
 refine zh Tryz.func110 Tryz.results110 Tryz.ntmps110 Tryz.call110 ?_
 simp only[Tryz.f110,Option.getD]
 repeat'(first|exact zC|refine zq0 ?_|(apply zaa<;>intro hb)|(apply I;exact zI)|(apply I<;>intro hg))
 refine zlt (Gh.sealF 3 3 (.d (.v (.slice none 0 0))) ?_) ?_
 ·exact zo0
 refine zf0 ?_
 refine zlt (Gh.sealF 3 4 (.d (.v (.slice none 0 0))) ?_) ?_
 ·exact zo0
 refine zf0 ?_
 refine zlt (Gh.sealF 3 5 (.d (.v (.slice none 0 0))) ?_) ?_
 ·exact zo0
 refine zf0 ?_
 refine zaf (τ:=Nat×St) (fun q=>⟨(al acts.length (zlu acts)::dd::ptq 2::ptq 3::ai q.1::zyu []),[(2,⟨2,[obq 1 [di 0,di 0,di 0, .d (.v (.slice none 0 0)), .d (.v (.slice none 0 0)), .d (.v (.slice none 0 0))],none,none,none,none,none,none]⟩),(3,⟨2,[obq 1 [di q.2.time,di q.2.num,di q.2.token, .d (.sl q.2.sess.length (zaQ q.2.sess)), .d (.sl q.2.locks.length (zaj q.2.locks)), .d (.sl q.2.memos.length (zaF q.2.memos))],none,none,none,none,none,none]⟩),(5,⟨2,[]⟩),(6,⟨2,[]⟩),(29,⟨2,[]⟩),(38,⟨2,[]⟩)]⟩)
  (fun q=>q.1≤acts.length∧q.1≤60∧Mk q.2 q.1) (fun q=>zm4 ((acts.take 60).drop q.1) q.2) (fun q=>acts.length - q.1) (0,st0)
  (Gh.canon [2,3] [5,6,29,38] [] zK rfl rfl) ⟨Nat.zero_le _,by decide,zm6,by decide,by decide⟩ ?_
 intro⟨i,s⟩ ⟨j1,j2,j3⟩ hF K hK
 simp only[List.drop_zero]at j1 j2 j3 hF hK⊢
 have hH:zbs=2305843009213693952:=rfl
 refine zw ?_
 refine zaa (fun hlt=> ?_) (fun hge=> ?_)
 ·have hlt2:i<acts.length∧i<60:=by simp at hlt;omega
  have hi:=hlt2.1
  have hat:=zxW hi
  have hw:=zai hi (by omega)
  have hao:=ha _ (List.getElem_mem hi)
  have hwt:=zc9 hao.1
  have htm:=zdM hao.1.1 16
  have hrt:=j3.rt.time
  have hnu:=j3.num
  have htk:=j3.tok
  have hwa:IntKind.i64.wrap (s.time+acts[i].time % 16)=s.time+acts[i].time % 16:=wrap64 (by omega) (by omega)
  have had:=zoz s (zcc j3.rt) j3.rt (s.time+acts[i].time % 16) 60
  obtain⟨r1,r2,r3,r4,r5⟩:=zhi j3.rt (s.time+acts[i].time % 16) 60 (by omega)
  have hmk:=zsR j3 (by omega) acts[i]
  have hds:(acts.take 60).drop i=acts[i]::(acts.take 60).drop (i+1):=by
   rw[List.drop_eq_getElem_cons (by simp;omega),List.getElem_take]
  have hst:zvv s acts[i]=(zeI (zcz s (s.time+acts[i].time % 16) 60) (zui (zcz s (s.time+acts[i].time % 16) 60) acts[i])).1:=rfl
  generalize zcz s (s.time+acts[i].time % 16) 60=t at*
  have hrq:=zqG t (zcc r1) r1 acts[i] hao
  have hro:=zxT r1 hao
  generalize zui t acts[i]=q at*
  have hap:=ztu t (zcc r1) r1 q hro (fun hm=>zoo r1 hm (by omega) (by omega)) (fun hm=>zqI r1 hm (by omega) (by omega))
  generalize zeI t q=U at*
  repeat'(first|exact zC|refine zq (I hat (I hwt (I htm (I hwa (I @zvw zca))))) ?_|refine zx (had) ?_|refine zx (hrq) ?_|refine zx (hap) ?_|(apply zaa<;>intro hb)|(apply I;exact zI)|(apply I<;>intro hg))
  refine hK _ (i+1,U.1) (Gh.canon [2,3] [] [] (zk hw) rfl rfl) ⟨hi,by simp only;omega,by rw[←hst];exact hmk⟩ ?_ (by simp only;omega)
  simp only
  rw[hds,zm4,hst]
 ·have hd:(acts.take 60).drop i=[]:=List.drop_eq_nil_of_le (by simp at hge⊢;omega)
  rw[hd,zm4]at hF
  rw[show zm5 acts=s from hF.symm]
  repeat'(first|exact zC|refine zq0 ?_|(apply zaa<;>intro hb)|(apply I;exact zI)|(apply I<;>intro hg))
  simp[zaG,zcn,zaK,zaw]
end Go.Proofs.YtliimajkpggbhaaGreat
