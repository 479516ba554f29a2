import Derived.Test.YtniafckaafcpbaaGreatVM
namespace Go.Proofs.YtniafckaafcpbaaGreat
open Go.Pk
set_option maxRecDepth 100000
set_option linter.unusedSimpArgs false
set_option linter.unusedVariables false
theorem zhV (r:Reply) (hr:replyOk r) (L:ByteArray):CallOK Tryz.prog 29 [.f (.agg r.lent), .f (ast L)] (fun x o=>x=[ri (tokP r.held L)]∧o=[]):=by
 refine zak zay mixed (T:=Ty) (n:=27) Tryz.func29 (c:=Tryz.f29.body.getD .skip) rfl Tryz.results29 Tryz.ntmps29 Tryz.call29 ?_
 simp only[Tryz.f29,Option.getD]
 obtain⟨h1,h2⟩:=hr
 unfold tokP
 repeat'(first|(with_reducible first|refine zaa _ _ ?_|refine zae ?_|refine zaf ?_)|rw[zad]|simp only[zY,Int.reduceEq,Int.reduceBEq,Int.reduceBNe,Nat.reduceSub,Nat.reduceEqDiff,Nat.reduceAdd,Nat.reduceMul,Nat.reduceLeDiff,Nat.reduceLT,Nat.reduceBEq,reduceCtorEq]|refine zab ?_|refine zac (fun hb=> ?_) (fun hb=> ?_)|(refine And.intro ?_ ?_;exact zI)|refine And.intro (fun hg=> ?_) (fun hg=> ?_)|exact zC|fail)
 refine zav (τ:=Nat) (fun i=>⟨[dd,ast L, .one (.ptr ⟨2,0,1⟩ 0),dd,dd,ai i,dd,dd,dd,dd,dd,dd,dd,dd,dd,dd,dd,dd,dd,dd,dd,dd,dd,dd,dd,dd,dd],[(2,{next:=2,l:=[some {e:=1,var:=true,fz:=false,sz:=0,cells:=[di r.code,di r.session,di r.ahead, .lent r.held.length (grantsE r.held)]},none,none,none,none]})]⟩)
  (fun i=>i≤r.held.length) (fun i=>(((r.held.drop i).find? fun g=>g.name.toList==L.toList).map Grant.token).getD 0) (fun i=>r.held.length - i) 0
  (Gh.canon [2] [] [] zK rfl rfl) (Nat.zero_le _) ?_
 intro i hi0 hF K hK
 rw[List.drop_zero]at hF
 repeat(first|with_reducible refine zaa _ _ ?_|with_reducible refine And.imp_right (zaa _ _) ?_|with_reducible refine And.imp_right (And.imp_right (zaa _ _)) ?_|with_reducible refine And.imp_right (And.imp_right (And.imp_right (zaa _ _))) ?_|rw[zad]|simp only[zB,Nat.reduceSub,Nat.reduceEqDiff,Nat.reduceAdd,Nat.reduceMul,Nat.reduceLeDiff,Nat.reduceLT,Nat.reduceBEq,reduceCtorEq])
 refine zac (fun hlt=> ?_) (fun hge=> ?_)
 ·have hi:i<r.held.length:=by simpa using hlt
  have hat:=zbq hi
  have hw:=zau hi (by omega)
  have hq:(((r.held.drop i).find? fun g=>g.name.toList==L.toList).map Grant.token).getD 0=if(r.held[i].name.toList==L.toList)=true then r.held[i].token else(((r.held.drop (i+1)).find? fun g=>g.name.toList==L.toList).map Grant.token).getD 0:=by
   rw[List.drop_eq_getElem_cons hi,List.find?_cons]
   cases r.held[i].name.toList==L.toList<;>rfl
  rw[hq]at hF
  repeat'(first|(with_reducible first|refine zaa _ _ ?_|refine zae ?_|refine zaf ?_)|rw[zad]|simp only[hat,List.cons_append,List.nil_append,za2,zY,Int.reduceEq,Int.reduceBEq,Int.reduceBNe,Nat.reduceSub,Nat.reduceEqDiff,Nat.reduceAdd,Nat.reduceMul,Nat.reduceLeDiff,Nat.reduceLT,Nat.reduceBEq,reduceCtorEq]|refine zab ?_|refine zac (fun hb=> ?_) (fun hb=> ?_)|(refine And.intro ?_ ?_;exact zI)|refine And.intro (fun hg=> ?_) (fun hg=> ?_)|exact zC|fail)
  ·rw[if_pos hb]at hF
   rw[←hF]
  ·rw[if_neg (by rw[hb];simp)]at hq
   exact hK _ (i+1) (Gh.canon [2] [] [] (by simp only[hw,zan,zaz,zao,zar,zas,zat,List.set_cons_zero,List.set_cons_succ,and_true,true_and,Int.natCast_zero,Int.cast_ofNat_Int,D.v.injEq,Value.int.injEq];try(repeat'(first|rfl|omega|with_reducible apply And.intro))) rfl rfl) hi hq.symm (by omega)
 ·have hi:i=r.held.length:=by
   have:¬(i:Int)<r.held.length:=by simpa using hge
   omega
  rw[hi,List.drop_length]at hF
  have hF:(0:Int)=_:=hF
  rw[←hF]
  repeat'(first|(with_reducible first|refine zaa _ _ ?_|refine zae ?_|refine zaf ?_)|rw[zad]|simp only[zY,Int.reduceEq,Int.reduceBEq,Int.reduceBNe,Nat.reduceSub,Nat.reduceEqDiff,Nat.reduceAdd,Nat.reduceMul,Nat.reduceLeDiff,Nat.reduceLT,Nat.reduceBEq,reduceCtorEq]|refine zab ?_|refine zac (fun hb=> ?_) (fun hb=> ?_)|(refine And.intro ?_ ?_;exact zI)|refine And.intro (fun hg=> ?_) (fun hg=> ?_)|exact zC|fail)
theorem zoT {a b:Int} (h:b≤a):max a b=a:=by omega
set_option maxHeartbeats 8000000 in
theorem zfq (acts:List Act) (hl:acts.length<2^60) (ha:∀a∈acts,actOk a) (c l n:Int) (hc:byteI c) (hll:byteI l) (hn:byteI n):
  CallOK Tryz.prog 6 [.f (al acts.length (actsE acts)), .f (au c), .f (au l), .f (au n)] (fun r o=>r=[rb true]∧o=[]):=by
 refine zak zay mixed (T:=Ty) (n:=210) Tryz.func6 (c:=Tryz.f6.body.getD .skip) rfl Tryz.results6 Tryz.ntmps6 Tryz.call6 ?_
 simp only[Tryz.f6,Option.getD]
 have haw:=zmA
 have hH:High=2305843009213693952:=rfl
 have hmk:=zmz acts
 have hmq:=zmy acts
 have htm:=zmv acts ha
 have hmd:=zn9 acts hl ha
 generalize madeS acts=s at*
 obtain⟨hr,hN,hT⟩:=hmk
 have hsm:=zaM hr
 have hcl:isClient (c % 8)=true:=zbd.2 (by omega)
 have hwc:=zbC hc
 have hwl:=zbC hll
 have hwn:=zbC hn
 have htc:=zbD hc.1 8
 have htn:=zbD hn.1 5
 have hfs:=zbP s.sess (by have:=hsm.sess;omega) (c % 8)
 have hls:=zeA s.memos (by have:=hsm.memos;omega) (c % 8)
 have hhd:=zjc s.locks hsm.locks (c % 8)
 have hq0:0≤((findM s.memos (c % 8)).getD noMemo).seq∧((findM s.memos (c % 8)).getD noMemo).seq≤66:=by
  cases hf:findM s.memos (c % 8)with
  |none=>decide
  |some m=>
   have:=(zbE (hr.mok m (List.mem_of_find?_eq_some hf))).2.1
   have:=hmq m (List.mem_of_find?_eq_some hf)
   simp only[Option.getD_some];omega
 have hd:2≤2+l∧2+l≤257:=by unfold byteI at hll;omega
 have hd1:IntKind.i64.wrap (2+l)=2+l:=wrap64 (by omega) (by omega)
 cases hf:findS s.sess (c % 8)with
 |none=>
  rw[hf]at hfs
  simp only[Option.isSome_none]at hfs
  repeat'(first|(with_reducible first|refine zaa _ _ ?_|refine zae ?_|refine zaf ?_)|rw[zad]|simp only[hwc,hwl,hwn,htc,hd1,zY,Int.reduceEq,Int.reduceBEq,Int.reduceBNe,Nat.reduceSub,Nat.reduceEqDiff,Nat.reduceAdd,Nat.reduceMul,Nat.reduceLeDiff,Nat.reduceLT,Nat.reduceBEq,reduceCtorEq]|((first|((try refine zai ?_);apply zaj)|(apply zah;intro _));(solve|exact(hmd)|exact(hfs)|exact(haw)|(refine CallOK.le (hmd) ?_;exact zM)|(refine CallOK.le (hfs) ?_;exact zM)|(refine CallOK.le (haw) ?_;exact zM)|fail);try case hn=>rfl)|refine zab ?_|refine zac (fun hb=> ?_) (fun hb=> ?_)|(refine And.intro ?_ ?_;exact zI)|refine And.intro (fun hg=> ?_) (fun hg=> ?_)|exact zC|fail)
 |some x=>
  rw[hf]at hfs
  simp only[Option.getD_some,Option.isSome_some]at hfs
  have hxc:x.client=c % 8:=(zcD hr.ss hf).2
  have hx0:1≤x.num∧x.num≤60:=by
   have:=(zbn.1 (hr.sok x (List.mem_of_find?_eq_some hf)).1).2.1
   have:=(hr.sok x (List.mem_of_find?_eq_some hf)).2
   omega
  have hxr:=htm.ren x (List.mem_of_find?_eq_some hf)
  have hmx:max s.time x.renewed=s.time:=zoT hxr
  have hst:s.time≤960:=by have:=htm.time;omega
  have hei:EI (c % 8) x.num (2+l) ((findM s.memos (c % 8)).getD noMemo).seq (heldP s.locks (c % 8)) 0 s:=
   ⟨hr,by omega,by omega,by omega,⟨x,hf,rfl,hxr,fun h=>absurd h (Nat.lt_irrefl 0)⟩,by omega,fun g hg=>hg,fun _=>rfl⟩
  have hgl:(heldP s.locks (c % 8)).length<2^30:=by
   have:=List.length_filter_le (fun k:Lk=>k.holder==c % 8) s.locks
   have:=hsm.locks
   unfold heldP;rw[List.length_map];omega
  generalize hHd:heldP s.locks (c % 8)=H at*
  generalize hM:(findM s.memos (c % 8)).getD noMemo=M at*
  generalize hC:c % 8=C at*
  have hsg:=zio H hgl
  have h01:((0:Int)==0)=true:=rfl
  repeat'(first|(with_reducible first|refine zaa _ _ ?_|refine zae ?_|refine zaf ?_)|rw[zad]|simp only[hwc,hwl,hwn,htc,hd1,hxc,hmx,zY,Int.reduceEq,Int.reduceBEq,Int.reduceBNe,Nat.reduceSub,Nat.reduceEqDiff,Nat.reduceAdd,Nat.reduceMul,Nat.reduceLeDiff,Nat.reduceLT,Nat.reduceBEq,reduceCtorEq]|((first|((try refine zai ?_);apply zaj)|(apply zah;intro _));(solve|exact(hmd)|exact(hfs)|exact(hls)|exact(hhd)|exact(haw)|(refine CallOK.le (hmd) ?_;exact zM)|(refine CallOK.le (hfs) ?_;exact zM)|(refine CallOK.le (hls) ?_;exact zM)|(refine CallOK.le (hhd) ?_;exact zM)|(refine CallOK.le (haw) ?_;exact zM)|fail);try case hn=>rfl)|refine zab ?_|refine zac (fun hb=> ?_) (fun hb=> ?_)|(refine And.intro ?_ ?_;exact zI)|refine And.intro (fun hg=> ?_) (fun hg=> ?_)|exact zC|fail)
  refine zbV (Gh.sealV 13 (x:= .own ⟨13,1,0⟩ 0 H.length) (d:= .sl H.length (grantsE H)) rfl (by simp only[zY,Nat.reduceSub,Nat.reduceEqDiff,Nat.reduceAdd,Nat.reduceMul,Nat.reduceLeDiff,Nat.reduceLT,Nat.reduceBEq,reduceCtorEq];rfl)) ?_
  refine zbV (Gh.dropRow 13 1 rfl) ?_
  simp only[zY,Nat.reduceSub,Nat.reduceEqDiff,Nat.reduceAdd,Nat.reduceMul,Nat.reduceLeDiff,Nat.reduceLT,Nat.reduceBEq,reduceCtorEq]
  have hw0:M.seq=M.seq+((0:Nat):Int):=by omega
  refine zav (τ:=Nat×St) (fun q=>⟨[dd,dd,dd,au n,dd,dd,dd,dd,dd,dd,ai (2+l), .one (.ptr ⟨11,0,1⟩ 0),dd, .one (.d (.sl H.length (grantsE H))),dd,dd, .one (.ptr ⟨16,0,1⟩ 0),ai (M.seq+q.1),ai q.1,dd,dd,dd,dd,dd,dd,dd,dd,dd,dd,dd,dd,dd,dd,dd,dd,dd,dd,dd,dd,dd,dd,dd,dd,dd,dd,dd,dd,dd,dd,dd,dd,dd,dd,dd,dd,dd,dd,dd,dd,dd,dd,dd,dd,dd,dd,dd,dd,dd,dd,dd,dd,dd,dd,dd,dd,dd,dd,dd,dd,dd,dd,dd,dd,dd,dd,dd,dd,dd,dd,dd,dd,dd,dd,dd,dd,dd,dd,dd,dd,dd,dd,dd,dd,dd,dd,dd,dd,dd,dd,dd,dd,dd,dd,dd,dd,dd,dd,dd,dd,dd,dd,dd,dd,dd,dd,dd,dd,dd,dd,dd,dd,dd,dd,dd,dd,dd,dd,dd,dd,dd,dd,dd,dd,dd,dd,dd,dd,dd,dd,dd,dd,dd,dd,dd,dd,dd,dd,dd,dd,dd,dd,dd,dd,dd,dd,dd,dd,dd,dd,dd,dd,dd,dd,dd,dd,dd,dd,dd,dd,dd,dd,dd,dd,dd,dd,dd,dd,dd,dd,dd,dd,dd,dd,dd,dd,dd,dd,dd,dd,dd,dd,dd,dd,dd,dd,dd,dd,dd,dd,dd],[(9,⟨2,[]⟩),(11,{next:=2,l:=[some {e:=1,var:=true,fz:=false,sz:=0,cells:=[di C,di x.num,di x.renewed]},none,none,none]}),(50,⟨2,[]⟩),(13,⟨2,[]⟩),(14,⟨2,[]⟩),(16,{next:=2,l:=[some {e:=1,var:=true,fz:=false,sz:=0,cells:=[di q.2.time,di q.2.num,di q.2.token, .d (.sl q.2.sess.length (sessE q.2.sess)), .d (.sl q.2.locks.length (locksE q.2.locks)), .d (.sl q.2.memos.length (memosE q.2.memos))]},none,none,none,none,none,none]}),(19,⟨2,[]⟩),(20,⟨2,[]⟩),(23,⟨2,[]⟩),(86,⟨2,[]⟩),(141,⟨2,[]⟩)]⟩)
   (fun q=>q.1≤5∧EI C x.num (2+l) M.seq H q.1 q.2∧(n % 5<q.1→0<q.1)) (fun _=>()) (fun q=>5 - q.1) (0,s)
   (Gh.canon [11,16] [19,20,23,86,141] [] (by simp only[Int.natCast_zero,Int.add_zero,zan,zaz,zao,zar,zas,zat,List.set_cons_zero,List.set_cons_succ,and_true,true_and,Int.natCast_zero,Int.cast_ofNat_Int,D.v.injEq,Value.int.injEq];try(repeat'(first|rfl|omega|with_reducible apply And.intro))) rfl rfl) ⟨Nat.zero_le _,hei,fun h=>by simp only at h;omega⟩ ?_
  intro⟨i,t⟩ ⟨j1,j2,j3⟩ _ K hK
  simp only at j1 j2 j3 hK⊢
  have hts:=zaM j2.rt
  repeat(first|with_reducible refine zaa _ _ ?_|with_reducible refine And.imp_right (zaa _ _) ?_|with_reducible refine And.imp_right (And.imp_right (zaa _ _)) ?_|with_reducible refine And.imp_right (And.imp_right (And.imp_right (zaa _ _))) ?_|rw[zad]|simp only[zB,hwn,htn,Nat.reduceSub,Nat.reduceEqDiff,Nat.reduceAdd,Nat.reduceMul,Nat.reduceLeDiff,Nat.reduceLT,Nat.reduceBEq,reduceCtorEq])
  rw[if_neg (show¬((5:Int)=0) by decide)]
  simp only[zY,Nat.reduceSub,Nat.reduceEqDiff,Nat.reduceAdd,Nat.reduceMul,Nat.reduceLeDiff,Nat.reduceLT,Nat.reduceBEq,reduceCtorEq]
  refine zac (fun hlt=> ?_) (fun hge=> ?_)
  ·have hlt:(i:Int)≤n % 5:=by simpa using hlt
   have hti:=j2.time
   have ht0:=j2.rt.time
   have htn':=j2.num
   have htt:=j2.tok
   obtain⟨u,e1,e2,e3,e4,e5⟩:=zn6 j2 (by omega) hcl hx0 hd hq0
   have hw:=zau (show i<6 by omega) (by decide)
   have hqw:IntKind.i64.wrap (M.seq+(i:Int)+1)=M.seq+i+1:=wrap64 (by omega) (by omega)
   have hC8:=zbd.1 hcl
   have ho:(⟨C,M.seq+i+1,2,x.num, .empty⟩:Req).ok:=
    ⟨⟨by simp only;omega,by simp only;omega⟩,⟨by simp only;omega,by simp only;omega⟩,⟨by simp only;omega,by simp only;omega⟩,⟨by simp only;omega,by simp only;omega⟩,by simp only;decide⟩
   have hap:=zi2 t hts j2.rt ⟨C,M.seq+i+1,2,x.num, .empty⟩ ho (fun h=>zd5 j2.rt h (by omega) (by omega))
   rw[e1]at hap
   have htk:∀g∈H,tokP (heldP t.locks C) g.name=g.token:=fun g hg=>zlm j2.rt.ls (j2.held g hg)
   have hrk:replyOk ⟨0,x.num,0,heldP t.locks C⟩:=zek hts.locks (fun k hk=>(hts.line k hk).2) C 0 x.num 0
   have hz:(((i:Int)==0)=true∧heldP t.locks C=H)∨((i:Int)==0)=false:=by
    rcases Nat.eq_zero_or_pos i with h0|h0
    ·exact .inl ⟨by rw[h0];rfl,j2.fst h0⟩
    ·exact .inr (by simp;omega)
   generalize heldP t.locks C=G at*
   have hsg':((i:Int)==0)=true→CallOK Tryz.prog 28 [.f (al G.length (grantsE G)), .f (al H.length (grantsE H))] (fun r o=>r=[rb true]∧o=[]):=by
    rcases hz with⟨_,h2⟩|h2
    ·intro _;rw[h2];exact hsg
    ·intro h;rw[h2]at h;cases h
   have hd2:IntKind.i64.wrap (u.time+(2+l))=u.time+(2+l):=wrap64 (by omega) (by omega)
   have hd3:IntKind.i64.wrap (u.time+(2+l) - 1)=u.time+(2+l) - 1:=wrap64 (by omega) (by omega)
   have had:=zd6 u (zaM e2) e2 (u.time+(2+l) - 1) (2+l)
   have hVs:=zaM e4.rt
   have hV:=zbP (advanceP u (u.time+(2+l) - 1) (2+l)).sess (by have:=hVs.sess;omega) C
   obtain⟨y,y1,y2,y3,y4⟩:=e4.ses
   rw[y1]at hV
   simp only[Option.getD_some,Option.isSome_some]at hV
   generalize advanceP u (u.time+(2+l) - 1) (2+l)=V at*
   have hqe:M.seq+((i+1:Nat):Int)=M.seq+i+1:=by omega
   cases hz1:((i:Int)==0)
   ·repeat'(first|(with_reducible first|refine zaa _ _ ?_|refine zae ?_|refine zaf ?_)|rw[zad]|simp only[hwn,htn,hqw,hz1,bne_self_eq_false,beq_self_eq_true,zY,Int.reduceEq,Int.reduceBEq,Int.reduceBNe,Nat.reduceSub,Nat.reduceEqDiff,Nat.reduceAdd,Nat.reduceMul,Nat.reduceLeDiff,Nat.reduceLT,Nat.reduceBEq,reduceCtorEq]|((first|((try refine zai ?_);apply zaj)|(apply zah;intro _));(solve|exact(hap)|(refine CallOK.le (hap) ?_;exact zM)|fail);try case hn=>rfl)|refine zab ?_|refine zac (fun hb=> ?_) (fun hb=> ?_)|(refine And.intro ?_ ?_;exact zI)|refine And.intro (fun hg=> ?_) (fun hg=> ?_)|exact zC|fail)
    refine zbV (Gh.sealF 20 3 (.own ⟨20,4,6⟩ 0 G.length) ?_) ?_
    ·simp only[sealFOK,zY,Nat.reduceSub,Nat.reduceEqDiff,Nat.reduceAdd,Nat.reduceMul,Nat.reduceLeDiff,Nat.reduceLT,Nat.reduceBEq,reduceCtorEq]
    simp only[sealFR,zY,Nat.reduceSub,Nat.reduceEqDiff,Nat.reduceAdd,Nat.reduceMul,Nat.reduceLeDiff,Nat.reduceLT,Nat.reduceBEq,reduceCtorEq]
    refine zbV (Gh.dropRow 20 4 rfl) ?_
    simp only[zY,Nat.reduceSub,Nat.reduceEqDiff,Nat.reduceAdd,Nat.reduceMul,Nat.reduceLeDiff,Nat.reduceLT,Nat.reduceBEq,reduceCtorEq]
    refine zav (τ:=Nat) (fun k=>⟨[dd,dd,dd,au n,dd,dd,dd,dd,dd,dd,ai (2+l), .one (.ptr ⟨11,0,1⟩ 0),dd, .one (.d (.sl H.length (grantsE H))),dd,dd, .one (.ptr ⟨16,0,1⟩ 0),ai (M.seq+i+1),ai i, .one (.ptr ⟨19,0,1⟩ 0), .one (.ptr ⟨20,0,1⟩ 0),dd,ai k,dd,dd,dd,dd,dd,dd,dd,dd,dd,dd,dd,dd,dd,dd,dd,dd,dd,dd,dd,dd,dd,dd,dd,dd,dd,dd,dd,dd,dd,dd,dd,dd,dd,dd,dd,dd,dd,dd,dd,dd,dd,dd,dd,dd,dd,dd,dd,dd,dd,dd,dd,dd,dd,dd,dd,dd,dd,dd,dd,dd,dd,dd,dd,dd,dd,dd,dd,dd,dd,dd,dd,dd,dd,dd,dd,dd,dd,dd,dd,dd,dd,dd,dd,dd,dd,dd,dd,dd,dd,dd,dd,dd,dd,dd,dd,dd,dd,dd,dd,dd,dd,dd,dd,dd,dd,dd,dd,dd,dd,dd,dd,dd,dd,dd,dd,dd,dd,dd,dd,dd,dd,dd,dd,dd,dd,dd,dd,dd,dd,dd,dd,dd,dd,dd,dd,dd,dd,dd,dd,dd,dd,dd,dd,dd,dd,dd,dd,dd,dd,dd,dd,dd,dd,dd,dd,dd,dd,dd,dd,dd,dd,dd,dd,dd,dd,dd,dd,dd,dd,dd,dd,dd,dd,dd,dd,dd,dd,dd,dd,dd,dd,dd,dd,dd,dd,dd,dd],[(9,⟨2,[]⟩),(11,{next:=2,l:=[some {e:=1,var:=true,fz:=false,sz:=0,cells:=[di C,di x.num,di x.renewed]},none,none,none]}),(50,⟨2,[]⟩),(13,⟨2,[]⟩),(14,⟨2,[]⟩),(16,{next:=2,l:=[some {e:=1,var:=true,fz:=false,sz:=0,cells:=[di t.time,di t.num,di t.token, .d (.sl t.sess.length (sessE t.sess)), .d (.sl t.locks.length (locksE t.locks)), .d (.sl t.memos.length (memosE t.memos))]},none,none,none,none,none,none]}),(19,{next:=2,l:=[some {e:=1,var:=true,fz:=false,sz:=0,cells:=[di u.time,di u.num,di u.token, .d (.sl u.sess.length (sessE u.sess)), .d (.sl u.locks.length (locksE u.locks)), .d (.sl u.memos.length (memosE u.memos))]},none,none,none,none,none,none]}),(20,{next:=2,l:=[some {e:=1,var:=true,fz:=false,sz:=0,cells:=[di 0,di x.num,di 0, .d (.sl G.length (grantsE G))]},none,none,none,none]}),(23,⟨2,[]⟩),(86,⟨2,[]⟩),(141,⟨2,[]⟩)]⟩)
     (fun k=>k≤H.length) (fun _=>()) (fun k=>H.length - k) 0 (Gh.canon [11,16,19,20] [] [] zK rfl rfl) (Nat.zero_le _) ?_
    intro k hk0 _ K2 hK2
    repeat(first|with_reducible refine zaa _ _ ?_|with_reducible refine And.imp_right (zaa _ _) ?_|with_reducible refine And.imp_right (And.imp_right (zaa _ _)) ?_|with_reducible refine And.imp_right (And.imp_right (And.imp_right (zaa _ _))) ?_|rw[zad]|simp only[zB,Nat.reduceSub,Nat.reduceEqDiff,Nat.reduceAdd,Nat.reduceMul,Nat.reduceLeDiff,Nat.reduceLT,Nat.reduceBEq,reduceCtorEq])
    refine zac (fun hlt2=> ?_) (fun hge2=> ?_)
    ·have hk:k<H.length:=by simpa using hlt2
     have hat:=zbq hk
     have hw2:=zau hk (by omega)
     have htk2:=htk _ (List.getElem_mem hk)
     have htok:=zhV ⟨0,x.num,0,G⟩ hrk H[k].name
     rw[htk2]at htok
     repeat'(first|(with_reducible first|refine zaa _ _ ?_|refine zae ?_|refine zaf ?_)|rw[zad]|simp only[hat,List.cons_append,List.nil_append,za2,bne_self_eq_false,zY,Int.reduceEq,Int.reduceBEq,Int.reduceBNe,Nat.reduceSub,Nat.reduceEqDiff,Nat.reduceAdd,Nat.reduceMul,Nat.reduceLeDiff,Nat.reduceLT,Nat.reduceBEq,reduceCtorEq]|((first|((try refine zai ?_);apply zaj)|(apply zah;intro _));(solve|exact(htok)|(refine CallOK.le (htok) ?_;exact zM)|fail);try case hn=>rfl)|refine zab ?_|refine zac (fun hb=> ?_) (fun hb=> ?_)|(refine And.intro ?_ ?_;exact zI)|refine And.intro (fun hg=> ?_) (fun hg=> ?_)|exact zC|fail)
     exact hK2 _ (k+1) (Gh.canon [11,16,19,20] [] [] (by simp only[hw2,zan,zaz,zao,zar,zas,zat,List.set_cons_zero,List.set_cons_succ,and_true,true_and,Int.natCast_zero,Int.cast_ofNat_Int,D.v.injEq,Value.int.injEq];try(repeat'(first|rfl|omega|with_reducible apply And.intro))) rfl rfl) hk rfl (by omega)
    ·repeat'(first|(with_reducible first|refine zaa _ _ ?_|refine zae ?_|refine zaf ?_)|rw[zad]|simp only[hd2,hd3,zY,Int.reduceEq,Int.reduceBEq,Int.reduceBNe,Nat.reduceSub,Nat.reduceEqDiff,Nat.reduceAdd,Nat.reduceMul,Nat.reduceLeDiff,Nat.reduceLT,Nat.reduceBEq,reduceCtorEq]|((first|((try refine zai ?_);apply zaj)|(apply zah;intro _));(solve|exact(had)|exact(hV)|(refine CallOK.le (had) ?_;exact zM)|(refine CallOK.le (hV) ?_;exact zM)|fail);try case hn=>rfl)|refine zab ?_|refine zac (fun hb=> ?_) (fun hb=> ?_)|(refine And.intro ?_ ?_;exact zI)|refine And.intro (fun hg=> ?_) (fun hg=> ?_)|exact zC|fail)
     exact hK _ (i+1,V) (Gh.canon [11,16] [] [] (by simp only[hw,hqe,zan,zaz,zao,zar,zas,zat,List.set_cons_zero,List.set_cons_succ,and_true,true_and,Int.natCast_zero,Int.cast_ofNat_Int,D.v.injEq,Value.int.injEq];try(repeat'(first|rfl|omega|with_reducible apply And.intro))) rfl rfl) ⟨by simp only;omega,e4,fun _=>Nat.succ_pos _⟩ trivial (by simp only;omega)
   ·have hsg2:=hsg' hz1
    repeat'(first|(with_reducible first|refine zaa _ _ ?_|refine zae ?_|refine zaf ?_)|rw[zad]|simp only[hwn,htn,hqw,hz1,bne_self_eq_false,beq_self_eq_true,zY,Int.reduceEq,Int.reduceBEq,Int.reduceBNe,Nat.reduceSub,Nat.reduceEqDiff,Nat.reduceAdd,Nat.reduceMul,Nat.reduceLeDiff,Nat.reduceLT,Nat.reduceBEq,reduceCtorEq]|((first|((try refine zai ?_);apply zaj)|(apply zah;intro _));(solve|exact(hap)|exact(hsg2)|(refine CallOK.le (hap) ?_;exact zM)|(refine CallOK.le (hsg2) ?_;exact zM)|fail);try case hn=>rfl)|refine zab ?_|refine zac (fun hb=> ?_) (fun hb=> ?_)|(refine And.intro ?_ ?_;exact zI)|refine And.intro (fun hg=> ?_) (fun hg=> ?_)|exact zC|fail)
    refine zbV (Gh.sealF 20 3 (.own ⟨20,4,6⟩ 0 G.length) ?_) ?_
    ·simp only[sealFOK,zY,Nat.reduceSub,Nat.reduceEqDiff,Nat.reduceAdd,Nat.reduceMul,Nat.reduceLeDiff,Nat.reduceLT,Nat.reduceBEq,reduceCtorEq]
    simp only[sealFR,zY,Nat.reduceSub,Nat.reduceEqDiff,Nat.reduceAdd,Nat.reduceMul,Nat.reduceLeDiff,Nat.reduceLT,Nat.reduceBEq,reduceCtorEq]
    refine zbV (Gh.dropRow 20 4 rfl) ?_
    simp only[zY,Nat.reduceSub,Nat.reduceEqDiff,Nat.reduceAdd,Nat.reduceMul,Nat.reduceLeDiff,Nat.reduceLT,Nat.reduceBEq,reduceCtorEq]
    refine zav (τ:=Nat) (fun k=>⟨[dd,dd,dd,au n,dd,dd,dd,dd,dd,dd,ai (2+l), .one (.ptr ⟨11,0,1⟩ 0),dd, .one (.d (.sl H.length (grantsE H))),dd,dd, .one (.ptr ⟨16,0,1⟩ 0),ai (M.seq+i+1),ai i, .one (.ptr ⟨19,0,1⟩ 0), .one (.ptr ⟨20,0,1⟩ 0),dd,ai k,dd,dd,dd,dd,dd,dd,dd,dd,dd,dd,dd,dd,dd,dd,dd,dd,dd,dd,dd,dd,dd,dd,dd,dd,dd,dd,dd,dd,dd,dd,dd,dd,dd,dd,dd,dd,dd,dd,dd,dd,dd,dd,dd,dd,dd,dd,dd,dd,dd,dd,dd,dd,dd,dd,dd,dd,dd,dd,dd,dd,dd,dd,dd,dd,dd,dd,dd,dd,dd,dd,dd,dd,dd,dd,dd,dd,dd,dd,dd,dd,dd,dd,dd,dd,dd,dd,dd,dd,dd,dd,dd,dd,dd,dd,dd,dd,dd,dd,dd,dd,dd,dd,dd,dd,dd,dd,dd,dd,dd,dd,dd,dd,dd,dd,dd,dd,dd,dd,dd,dd,dd,dd,dd,dd,dd,dd,dd,dd,dd,dd,dd,dd,dd,dd,dd,dd,dd,dd,dd,dd,dd,dd,dd,dd,dd,dd,dd,dd,dd,dd,dd,dd,dd,dd,dd,dd,dd,dd,dd,dd,dd,dd,dd,dd,dd,dd,dd,dd,dd,dd,dd,dd,dd,dd,dd,dd,dd,dd,dd,dd,dd,dd,dd,dd,dd,dd,dd],[(9,⟨2,[]⟩),(11,{next:=2,l:=[some {e:=1,var:=true,fz:=false,sz:=0,cells:=[di C,di x.num,di x.renewed]},none,none,none]}),(50,⟨2,[]⟩),(13,⟨2,[]⟩),(14,⟨2,[]⟩),(16,{next:=2,l:=[some {e:=1,var:=true,fz:=false,sz:=0,cells:=[di t.time,di t.num,di t.token, .d (.sl t.sess.length (sessE t.sess)), .d (.sl t.locks.length (locksE t.locks)), .d (.sl t.memos.length (memosE t.memos))]},none,none,none,none,none,none]}),(19,{next:=2,l:=[some {e:=1,var:=true,fz:=false,sz:=0,cells:=[di u.time,di u.num,di u.token, .d (.sl u.sess.length (sessE u.sess)), .d (.sl u.locks.length (locksE u.locks)), .d (.sl u.memos.length (memosE u.memos))]},none,none,none,none,none,none]}),(20,{next:=2,l:=[some {e:=1,var:=true,fz:=false,sz:=0,cells:=[di 0,di x.num,di 0, .d (.sl G.length (grantsE G))]},none,none,none,none]}),(23,⟨2,[]⟩),(86,⟨2,[]⟩),(141,⟨2,[]⟩)]⟩)
     (fun k=>k≤H.length) (fun _=>()) (fun k=>H.length - k) 0 (Gh.canon [11,16,19,20] [] [] zK rfl rfl) (Nat.zero_le _) ?_
    intro k hk0 _ K2 hK2
    repeat(first|with_reducible refine zaa _ _ ?_|with_reducible refine And.imp_right (zaa _ _) ?_|with_reducible refine And.imp_right (And.imp_right (zaa _ _)) ?_|with_reducible refine And.imp_right (And.imp_right (And.imp_right (zaa _ _))) ?_|rw[zad]|simp only[zB,Nat.reduceSub,Nat.reduceEqDiff,Nat.reduceAdd,Nat.reduceMul,Nat.reduceLeDiff,Nat.reduceLT,Nat.reduceBEq,reduceCtorEq])
    refine zac (fun hlt2=> ?_) (fun hge2=> ?_)
    ·have hk:k<H.length:=by simpa using hlt2
     have hat:=zbq hk
     have hw2:=zau hk (by omega)
     have htk2:=htk _ (List.getElem_mem hk)
     have htok:=zhV ⟨0,x.num,0,G⟩ hrk H[k].name
     rw[htk2]at htok
     repeat'(first|(with_reducible first|refine zaa _ _ ?_|refine zae ?_|refine zaf ?_)|rw[zad]|simp only[hat,List.cons_append,List.nil_append,za2,bne_self_eq_false,zY,Int.reduceEq,Int.reduceBEq,Int.reduceBNe,Nat.reduceSub,Nat.reduceEqDiff,Nat.reduceAdd,Nat.reduceMul,Nat.reduceLeDiff,Nat.reduceLT,Nat.reduceBEq,reduceCtorEq]|((first|((try refine zai ?_);apply zaj)|(apply zah;intro _));(solve|exact(htok)|(refine CallOK.le (htok) ?_;exact zM)|fail);try case hn=>rfl)|refine zab ?_|refine zac (fun hb=> ?_) (fun hb=> ?_)|(refine And.intro ?_ ?_;exact zI)|refine And.intro (fun hg=> ?_) (fun hg=> ?_)|exact zC|fail)
     exact hK2 _ (k+1) (Gh.canon [11,16,19,20] [] [] (by simp only[hw2,zan,zaz,zao,zar,zas,zat,List.set_cons_zero,List.set_cons_succ,and_true,true_and,Int.natCast_zero,Int.cast_ofNat_Int,D.v.injEq,Value.int.injEq];try(repeat'(first|rfl|omega|with_reducible apply And.intro))) rfl rfl) hk rfl (by omega)
    ·repeat'(first|(with_reducible first|refine zaa _ _ ?_|refine zae ?_|refine zaf ?_)|rw[zad]|simp only[hd2,hd3,zY,Int.reduceEq,Int.reduceBEq,Int.reduceBNe,Nat.reduceSub,Nat.reduceEqDiff,Nat.reduceAdd,Nat.reduceMul,Nat.reduceLeDiff,Nat.reduceLT,Nat.reduceBEq,reduceCtorEq]|((first|((try refine zai ?_);apply zaj)|(apply zah;intro _));(solve|exact(had)|exact(hV)|(refine CallOK.le (had) ?_;exact zM)|(refine CallOK.le (hV) ?_;exact zM)|fail);try case hn=>rfl)|refine zab ?_|refine zac (fun hb=> ?_) (fun hb=> ?_)|(refine And.intro ?_ ?_;exact zI)|refine And.intro (fun hg=> ?_) (fun hg=> ?_)|exact zC|fail)
     exact hK _ (i+1,V) (Gh.canon [11,16] [] [] (by simp only[hw,hqe,zan,zaz,zao,zar,zas,zat,List.set_cons_zero,List.set_cons_succ,and_true,true_and,Int.natCast_zero,Int.cast_ofNat_Int,D.v.injEq,Value.int.injEq];try(repeat'(first|rfl|omega|with_reducible apply And.intro))) rfl rfl) ⟨by simp only;omega,e4,fun _=>Nat.succ_pos _⟩ trivial (by simp only;omega)
  ·have h0:0<i:=by
    have:¬(i:Int)≤n % 5:=by simpa using hge
    omega
   obtain⟨f1,f2,f3,f4⟩:=zoK j2 h0 (by omega) hd
   have hti:=j2.time
   have ht0:=j2.rt.time
   have hw1:IntKind.i64.wrap (t.time+1)=t.time+1:=wrap64 (by omega) (by omega)
   have had:=zd6 t hts j2.rt (t.time+1) (2+l)
   generalize advanceP t (t.time+1) (2+l)=V at*
   have hVs:=zaM f1
   have hV:=zbP V.sess (by have:=hVs.sess;omega) C
   rw[f2]at hV
   simp only[Option.getD_none,Option.isSome_none]at hV
   have hri:=zi3 V hVs
   rw[zd9.2 f1]at hri
   have hgo:=zk1 t V hts hVs f1.ss
   have hgi:=zmt (goneP t V) (by
    have:=List.length_filter_le (fun x:Sess=> !((findS V.sess x.client).any fun y=>y.num==x.num)) t.sess
    have:=hts.sess
    unfold goneP;rw[List.length_map];omega) C
   rw[f4]at hgi
   repeat'(first|(with_reducible first|refine zaa _ _ ?_|refine zae ?_|refine zaf ?_)|rw[zad]|simp only[hw1,zY,Int.reduceEq,Int.reduceBEq,Int.reduceBNe,Nat.reduceSub,Nat.reduceEqDiff,Nat.reduceAdd,Nat.reduceMul,Nat.reduceLeDiff,Nat.reduceLT,Nat.reduceBEq,reduceCtorEq]|((first|((try refine zai ?_);apply zaj)|(apply zah;intro _));(solve|exact(had)|exact(hV)|(refine CallOK.le (had) ?_;exact zM)|(refine CallOK.le (hV) ?_;exact zM)|fail);try case hn=>rfl)|refine zab ?_|refine zac (fun hb=> ?_) (fun hb=> ?_)|(refine And.intro ?_ ?_;exact zI)|refine And.intro (fun hg=> ?_) (fun hg=> ?_)|exact zC|fail)
   refine zav (τ:=Nat) (fun k=>⟨[dd,dd,dd,dd,dd,dd,dd,dd,dd,dd,dd, .one (.ptr ⟨11,0,1⟩ 0),dd,dd,dd,dd, .one (.ptr ⟨16,0,1⟩ 0),dd,dd,dd,dd,dd,dd,dd,dd, .one (.ptr ⟨25,0,1⟩ 0),dd,ab false,ai k,dd,dd,dd,dd,dd,dd,dd,dd,dd,dd,dd,dd,dd,dd,dd,dd,dd,dd,dd,dd,dd,dd,dd,dd,dd,dd,dd,dd,dd,dd,dd,dd,dd,dd,dd,dd,dd,dd,dd,dd,dd,dd,dd,dd,dd,dd,dd,dd,dd,dd,dd,dd,dd,dd,dd,dd,dd,dd,dd,dd,dd,dd,dd,dd,dd,dd,dd,dd,dd,dd,dd,dd,dd,dd,dd,dd,dd,dd,dd,dd,dd,dd,dd,dd,dd,dd,dd,dd,dd,dd,dd,dd,dd,dd,dd,dd,dd,dd,dd,dd,dd,dd,dd,dd,dd,dd,dd,dd,dd,dd,dd,dd,dd,dd,dd,dd,dd,dd,dd,dd,dd,dd,dd,dd,dd,dd,dd,dd,dd,dd,dd,dd,dd,dd,dd,dd,dd,dd,dd,dd,dd,dd,dd,dd,dd,dd,dd,dd,dd,dd,dd,dd,dd,dd,dd,dd,dd,dd,dd,dd,dd,dd,dd,dd,dd,dd,dd,dd,dd,dd,dd,dd,dd,dd,dd,dd,dd,dd,dd,dd,dd],[(9,⟨2,[]⟩),(11,{next:=2,l:=[some {e:=1,var:=true,fz:=false,sz:=0,cells:=[di C,di x.num,di x.renewed]},none,none,none]}),(50,⟨2,[]⟩),(13,⟨2,[]⟩),(14,⟨2,[]⟩),(16,{next:=2,l:=[some {e:=1,var:=true,fz:=false,sz:=0,cells:=[di t.time,di t.num,di t.token, .d (.sl t.sess.length (sessE t.sess)), .d (.sl t.locks.length (locksE t.locks)), .d (.sl t.memos.length (memosE t.memos))]},none,none,none,none,none,none]}),(19,⟨2,[]⟩),(20,⟨2,[]⟩),(23,⟨2,[]⟩),(86,⟨2,[]⟩),(141,⟨2,[]⟩),(25,{next:=2,l:=[some {e:=1,var:=true,fz:=false,sz:=0,cells:=[di V.time,di V.num,di V.token, .d (.sl V.sess.length (sessE V.sess)), .d (.sl V.locks.length (locksE V.locks)), .d (.sl V.memos.length (memosE V.memos))]},none,none,none,none,none,none]}),(26,⟨2,[]⟩)]⟩)
    (fun k=>k≤V.locks.length) (fun _=>()) (fun k=>V.locks.length - k) 0 (Gh.canon [11,16,25] [] [] zK rfl rfl) (Nat.zero_le _) ?_
   intro k hk0 _ K2 hK2
   repeat(first|with_reducible refine zaa _ _ ?_|with_reducible refine And.imp_right (zaa _ _) ?_|with_reducible refine And.imp_right (And.imp_right (zaa _ _)) ?_|with_reducible refine And.imp_right (And.imp_right (And.imp_right (zaa _ _))) ?_|rw[zad]|simp only[zB,Nat.reduceSub,Nat.reduceEqDiff,Nat.reduceAdd,Nat.reduceMul,Nat.reduceLeDiff,Nat.reduceLT,Nat.reduceBEq,reduceCtorEq])
   refine zac (fun hlt2=> ?_) (fun hge2=> ?_)
   ·have hk:k<V.locks.length:=by simpa using hlt2
    have hat:=zaF hk
    have hw2:=zau hk (by have:=hVs.locks;omega)
    obtain⟨g1,g2⟩:=f3 _ (List.getElem_mem hk)
    have hin:=zmt V.locks[k].line (by have:=(hVs.line _ (List.getElem_mem hk)).1;omega) C
    rw[g2]at hin
    repeat'(first|(with_reducible first|refine zaa _ _ ?_|refine zae ?_|refine zaf ?_)|rw[zad]|simp only[hat,List.cons_append,List.nil_append,zam,g1,zY,Int.reduceEq,Int.reduceBEq,Int.reduceBNe,Nat.reduceSub,Nat.reduceEqDiff,Nat.reduceAdd,Nat.reduceMul,Nat.reduceLeDiff,Nat.reduceLT,Nat.reduceBEq,reduceCtorEq]|((first|((try refine zai ?_);apply zaj)|(apply zah;intro _));(solve|exact(hin)|(refine CallOK.le (hin) ?_;exact zM)|fail);try case hn=>rfl)|refine zab ?_|refine zac (fun hb=> ?_) (fun hb=> ?_)|(refine And.intro ?_ ?_;exact zI)|refine And.intro (fun hg=> ?_) (fun hg=> ?_)|exact zC|fail)
    exact hK2 _ (k+1) (Gh.canon [11,16,25] [] [] (by simp only[hw2,zan,zaz,zao,zar,zas,zat,List.set_cons_zero,List.set_cons_succ,and_true,true_and,Int.natCast_zero,Int.cast_ofNat_Int,D.v.injEq,Value.int.injEq];try(repeat'(first|rfl|omega|with_reducible apply And.intro))) rfl rfl) hk rfl (by omega)
   ·repeat'(first|(with_reducible first|refine zaa _ _ ?_|refine zae ?_|refine zaf ?_)|rw[zad]|simp only[rowI,zY,Int.reduceEq,Int.reduceBEq,Int.reduceBNe,Nat.reduceSub,Nat.reduceEqDiff,Nat.reduceAdd,Nat.reduceMul,Nat.reduceLeDiff,Nat.reduceLT,Nat.reduceBEq,reduceCtorEq]|((first|((try refine zai ?_);apply zaj)|(apply zah;intro _));(solve|exact(hri)|exact(hgo)|exact(hgi)|exact(haw)|(refine CallOK.le (hri) ?_;exact zM)|(refine CallOK.le (hgo) ?_;exact zM)|(refine CallOK.le (hgi) ?_;exact zM)|(refine CallOK.le (haw) ?_;exact zM)|fail);try case hn=>rfl)|refine zab ?_|refine zac (fun hb=> ?_) (fun hb=> ?_)|(refine And.intro ?_ ?_;exact zI)|refine And.intro (fun hg=> ?_) (fun hg=> ?_)|exact zC|fail)
end Go.Proofs.YtniafckaafcpbaaGreat
