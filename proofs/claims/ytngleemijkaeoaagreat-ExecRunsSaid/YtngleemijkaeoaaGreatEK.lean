import Derived.Test.YtngleemijkaeoaaGreatEB
namespace Go.Proofs.YtngleemijkaeoaaGreat
open Go.Pk
set_option maxRecDepth 100000
set_option linter.unusedSimpArgs false
set_option linter.unusedVariables false
abbrev XS.cells (x:XS):List D:=[iD x.lease,iD x.done,iD x.view,iD x.slot,iD x.st.time,iD x.st.num,iD x.st.token, .sl x.st.sess.length (zaF x.st.sess), .sl x.st.locks.length (zah x.st.locks), .sl x.st.memos.length (zav x.st.memos)]
abbrev XS.ro (x:XS):List RO:=[.d (iD x.lease), .d (iD x.done), .d (iD x.view), .d (iD x.slot), .d (iD x.st.time), .d (iD x.st.num), .d (iD x.st.token), .d (.sl x.st.sess.length (zaF x.st.sess)), .d (.sl x.st.locks.length (zah x.st.locks)), .d (.sl x.st.memos.length (zav x.st.memos))]
abbrev XS.at (x:XS):AV:= .one (.elt x.cells)
abbrev zwu:AV:= .one (.d (.v (.pointer none)))
def zpj (l:Int):XS:=⟨l,0,0,0,st0⟩
theorem zo9 (l:Int) (h:(decide (l<1)||decide (l>1000000))=false):CallP Tryz.prog 8 [.f (ai l)] [] (zpj l).ro:=by
 refine CallP.leR (rfs:=[]) (l:=[.d (iD l), .d (iD 0), .d (iD 0), .d (iD 0), .d (iD 0), .d (iD 0), .d (iD 0), .d (.v (.slice none 0 0)), .d (.v (.slice none 0 0)), .d (.v (.slice none 0 0))]) ?_ zgu (by simp[zki,roB,zpj,st0])
 refine zlg zar mixed (T:=Ty) (n:=12) Tryz.func8 (c:=Tryz.f8.body.getD .skip) rfl Tryz.results8 Tryz.ntmps8 Tryz.call8 ?_
 simp only[Tryz.f8,Option.getD]
 repeat'(first|(with_reducible first|refine zab _ _ ?_|refine zaP ?_|refine zaQ ?_)|rw[zak]|simp only[h,zgt,zlf,zgs,zh7,zY,Int.reduceEq,Int.reduceBEq,Int.reduceBNe,Nat.reduceSub,Nat.reduceEqDiff,Nat.reduceAdd,Nat.reduceMul,Nat.reduceLeDiff,Nat.reduceLT,Nat.reduceBEq,reduceCtorEq]|refine zam ?_|refine zaa (fun hb=> ?_) (fun hb=> ?_)|(refine And.intro ?_ ?_;exact zI)|refine And.intro (fun hg=> ?_) (fun hg=> ?_)|exact zC|fail)
theorem zl5 (l:Int) (h:(decide (l<1)||decide (l>1000000))=true):CallOK Tryz.prog 8 [.f (ai l)] (fun r o=>r=[.one (.d (.v (.pointer none)))]∧o=[]):=by
 refine zac zar mixed (T:=Ty) (n:=12) Tryz.func8 (c:=Tryz.f8.body.getD .skip) rfl Tryz.results8 Tryz.ntmps8 Tryz.call8 ?_
 simp only[Tryz.f8,Option.getD]
 repeat'(first|refine zq h ?_|exact zd h|(refine zaa ?_ ?_<;>intro hb)|(refine And.intro ?_ ?_;exact zI)|(refine And.intro ?_ ?_<;>intro hg)|exact zC|fail)
theorem zsy (l:Int) (h:(decide (l<1)||decide (l>1000000))=false):CallP Tryz.prog 9 [.f (ai l)] [] (zpj l).ro:=by
 refine CallP.leR (rfs:=[]) (l:=[.d (iD l), .d (iD 0), .d (iD 0), .d (iD 0), .d (iD 0), .d (iD 0), .d (iD 0), .d (.v (.slice none 0 0)), .d (.v (.slice none 0 0)), .d (.v (.slice none 0 0))]) ?_ zgu (by simp[zki,roB,zpj,st0])
 refine zlg zar mixed (T:=Ty) (n:=12) Tryz.func9 (c:=Tryz.f9.body.getD .skip) rfl Tryz.results9 Tryz.ntmps9 Tryz.call9 ?_
 simp only[Tryz.f9,Option.getD]
 repeat'(first|(with_reducible first|refine zab _ _ ?_|refine zaP ?_|refine zaQ ?_)|rw[zak]|simp only[h,zgt,zlf,zgs,zh7,zY,Int.reduceEq,Int.reduceBEq,Int.reduceBNe,Nat.reduceSub,Nat.reduceEqDiff,Nat.reduceAdd,Nat.reduceMul,Nat.reduceLeDiff,Nat.reduceLT,Nat.reduceBEq,reduceCtorEq]|refine zam ?_|refine zaa (fun hb=> ?_) (fun hb=> ?_)|(refine And.intro ?_ ?_;exact zI)|refine And.intro (fun hg=> ?_) (fun hg=> ?_)|exact zC|fail)
theorem zqC (l:Int) (h:(decide (l<1)||decide (l>1000000))=true):CallOK Tryz.prog 9 [.f (ai l)] (fun r o=>r=[.one (.d (.v (.pointer none)))]∧o=[]):=by
 refine zac zar mixed (T:=Ty) (n:=12) Tryz.func9 (c:=Tryz.f9.body.getD .skip) rfl Tryz.results9 Tryz.ntmps9 Tryz.call9 ?_
 simp only[Tryz.f9,Option.getD]
 repeat'(first|refine zq h ?_|exact zd h|(refine zaa ?_ ?_<;>intro hb)|(refine And.intro ?_ ?_;exact zI)|(refine And.intro ?_ ?_<;>intro hg)|exact zC|fail)
theorem zl6 (x:XS):CallOK Tryz.prog 25 [.f x.at] (fun r o=>r=[ri x.done]∧o=[]):=by
 refine zac zar mixed (T:=Ty) (n:=10) Tryz.func25 (c:=Tryz.f25.body.getD .skip) rfl Tryz.results25 Tryz.ntmps25 Tryz.call25 ?_
 simp only[Tryz.f25,Option.getD]
 repeat'(first|refine zq0 ?_|exact zd0|(refine zaa ?_ ?_<;>intro hb)|(refine And.intro ?_ ?_;exact zI)|(refine And.intro ?_ ?_<;>intro hg)|exact zC|fail)
theorem zpa (x:XS):CallOK Tryz.prog 19 [.f x.at] (fun r o=>r=[.agg [.d (iD x.view), .d (iD x.slot)]]∧o=[]):=by
 refine zac zar mixed (T:=Ty) (n:=11) Tryz.func19 (c:=Tryz.f19.body.getD .skip) rfl Tryz.results19 Tryz.ntmps19 Tryz.call19 ?_
 simp only[Tryz.f19,Option.getD]
 repeat'(first|refine zq0 ?_|exact zd0|(refine zaa ?_ ?_<;>intro hb)|(refine And.intro ?_ ?_;exact zI)|(refine And.intro ?_ ?_<;>intro hg)|exact zC|fail)
structure Sn where
 done:Int
 view:Int
 slot:Int
 st:St
abbrev Sn.lent (s:Sn):List C:=di s.done::di s.view::di s.slot::s.st.lent
abbrev ztV (s:Sn):RF:= .agg (.d (iD s.done):: .d (iD s.view):: .d (iD s.slot)::(stE s.st).map RO.d)
abbrev Sn.rf (s:Sn):RF:= .agg [.d (iD s.done), .d (iD s.view), .d (iD s.slot), .d (iD s.st.time), .d (iD s.st.num), .d (iD s.st.token), .own 3 s.st.sess.length (zaF s.st.sess) false, .own 4 s.st.locks.length (zah s.st.locks) false, .own 6 s.st.memos.length (zav s.st.memos) false]
set_option maxHeartbeats 1000000 in
theorem zhM (s:Sn) (h:Small s.st):CallOK Tryz.prog 41 [.f (.agg s.lent)] (fun r o=>r=[s.rf]∧o=[]):=by
 refine zac zar mixed (T:=Ty) (n:=84) Tryz.func41 (c:=Tryz.f41.body.getD .skip) rfl Tryz.results41 Tryz.ntmps41 Tryz.call41 ?_
 simp only[Tryz.f41,Option.getD]
 have hcs:=zea s.st.sess.length (zaF s.st.sess) zai (by have:=h.sess;omega)
 have hcl:=zfu s.st.locks.length (zah s.st.locks) zad (by have:=h.locks;omega)
 have hcm:=zfv s.st.memos.length (zav s.st.memos) zaj (by have:=h.memos;omega)
 repeat'(first|refine zq0 ?_|exact zd0|refine zc (hcs) ?_|refine zg (hcs) ?_|refine zc (hcl) ?_|refine zg (hcl) ?_|refine zc (hcm) ?_|refine zg (hcm) ?_|(refine zaa ?_ ?_<;>intro hb)|(refine And.intro ?_ ?_;exact zI)|(refine And.intro ?_ ?_<;>intro hg)|exact zC|fail)
 refine zao (τ:=Nat) (fun i=>⟨[dd, .one (.ptr ⟨1,0,1⟩ 0), .one (.ptr ⟨2,0,1⟩ 0), .one (.ptr ⟨1,0,1⟩ 3),dd,dd,dd,dd,dd,dd,dd,dd,dd,dd,dd,dd,dd,dd,dd,dd,dd,dd,dd,dd,dd,dd,dd,ai s.st.locks.length,ai i,dd,dd,dd,dd,dd,dd,dd,dd,dd,dd,dd,dd,dd,dd,dd,dd,dd,dd,dd,dd,dd,dd,dd,dd,dd,dd,dd,dd,dd,dd,dd,dd,dd,dd,dd,dd,dd,dd,dd,dd,dd,dd,dd,dd,dd,dd,dd,dd,dd,dd,dd,dd,dd,dd,dd],[(1,{next:=2,l:=[some {e:=1,var:=true,fz:=false,sz:=0,cells:=[di s.done,di s.view,di s.slot,di s.st.time,di s.st.num,di s.st.token, .own ⟨1,7,1⟩ 0 s.st.sess.length, .own ⟨1,8,1⟩ 0 s.st.locks.length, .lent s.st.memos.length (zav s.st.memos)]},none,none,none,none,none,none,some {e:=1,var:=false,fz:=false,sz:=3,cells:=(zaF s.st.sess).map C.d},some {e:=1,var:=false,fz:=false,sz:=4,cells:=(zah s.st.locks).map C.d},none]}),(2,{next:=2,l:=[some {e:=1,var:=true,fz:=false,sz:=0,cells:=[di 0,di 0,di 0,di 0,di 0,di 0, .d (.v (.slice none 0 0)), .d (.v (.slice none 0 0)), .d (.v (.slice none 0 0))]},none,none,none,none,none,none,none,none,none]}),(12,⟨2,[]⟩),(20,⟨2,[]⟩),(44,⟨2,[]⟩)]⟩)
  (fun i=>i≤s.st.locks.length) (fun _=>()) (fun i=>s.st.locks.length - i) 0
  (Gh.canon [1,2] [44] [] zK rfl rfl) (Nat.zero_le _) ?_
 intro i hi0 hF K hK
 refine zw ?_
 refine zaa (fun hlt=> ?_) (fun hge=> ?_)
 ·have hi:i<s.st.locks.length:=by simpa using hlt
  have hat:=zaJ hi
  have hat2:(zah s.st.locks).drop (i*4+3)= .sl s.st.locks[i].line.length (zat s.st.locks[i].line)::zah (s.st.locks.drop (i+1)):=by rw[←List.drop_drop,hat];rfl
  have hw:=zan hi (by have:=h.locks;omega)
  have hci:=zcS s.st.locks[i].line.length (zat s.st.locks[i].line) zaf (by have:=(h.line _ (List.getElem_mem hi)).1;omega)
  have hset:=zbP Lk.enc 4 (fun _=>rfl) hi (k:=3) (by decide) (.sl s.st.locks[i].line.length (zat s.st.locks[i].line)) s.st.locks[i] rfl
  rw[List.set_getElem_self]at hset
  repeat'(first|refine zq (I hat2 (I hset (I @zmd (I @List.map_cons.{0,0} @zad)))) ?_|exact zd (I hat2 (I hset (I @zmd (I @List.map_cons.{0,0} @zad))))|refine zc (hci) ?_|refine zg (hci) ?_|(refine zaa ?_ ?_<;>intro hb)|(refine And.intro ?_ ?_;exact zI)|(refine And.intro ?_ ?_<;>intro hg)|exact zC|fail)
  exact hK _ (i+1) (Gh.canon [1,2] [] [] (zk hw) rfl rfl) hi rfl (by omega)
 ·have hi:i=s.st.locks.length:=by
   have:¬(i:Int)<s.st.locks.length:=by simpa using hge
   omega
  repeat'(first|refine zq0 ?_|exact zd0|refine zc (hcm) ?_|refine zg (hcm) ?_|(refine zaa ?_ ?_<;>intro hb)|(refine And.intro ?_ ?_;exact zI)|(refine And.intro ?_ ?_<;>intro hg)|exact zC|fail)
  refine zao (τ:=Nat) (fun i=>⟨[dd, .one (.ptr ⟨1,0,1⟩ 0), .one (.ptr ⟨2,0,1⟩ 0), .one (.ptr ⟨1,0,1⟩ 3),dd,dd,dd,dd,dd,dd,dd,dd,dd,dd,dd,dd,dd,dd,dd,dd,dd,dd,dd,dd,dd,dd,dd,dd,dd,dd,dd,dd,dd,dd,dd,dd,dd,dd,dd,dd,dd,dd,dd,dd,dd,dd,dd,dd,dd,dd,dd,dd,dd,dd,dd,dd,dd,dd,dd,dd,ai s.st.memos.length,ai i,dd,dd,dd,dd,dd,dd,dd,dd,dd,dd,dd,dd,dd,dd,dd,dd,dd,dd,dd,dd,dd,dd],[(1,{next:=2,l:=[some {e:=1,var:=true,fz:=false,sz:=0,cells:=[di s.done,di s.view,di s.slot,di s.st.time,di s.st.num,di s.st.token, .own ⟨1,7,1⟩ 0 s.st.sess.length, .own ⟨1,8,1⟩ 0 s.st.locks.length, .own ⟨1,9,1⟩ 0 s.st.memos.length]},none,none,none,none,none,none,some {e:=1,var:=false,fz:=false,sz:=3,cells:=(zaF s.st.sess).map C.d},some {e:=1,var:=false,fz:=false,sz:=4,cells:=(zah s.st.locks).map C.d},some {e:=1,var:=false,fz:=false,sz:=6,cells:=(zav s.st.memos).map C.d}]}),(2,{next:=2,l:=[some {e:=1,var:=true,fz:=false,sz:=0,cells:=[di 0,di 0,di 0,di 0,di 0,di 0, .d (.v (.slice none 0 0)), .d (.v (.slice none 0 0)), .d (.v (.slice none 0 0))]},none,none,none,none,none,none,none,none,none]}),(12,⟨2,[]⟩),(20,⟨2,[]⟩),(44,⟨2,[]⟩),(53,⟨2,[]⟩),(78,⟨2,[]⟩)]⟩)
   (fun i=>i≤s.st.memos.length) (fun _=>()) (fun i=>s.st.memos.length - i) 0
   (Gh.canon [1,2] [78] [] zK rfl rfl) (Nat.zero_le _) ?_
  intro i hi0 hF K hK
  refine zw ?_
  refine zaa (fun hlt=> ?_) (fun hge=> ?_)
  ·have hi:i<s.st.memos.length:=by simpa using hlt
   have hat:=zbu hi
   have hat2:(zav s.st.memos).drop (i*6+2+3)= .sl s.st.memos[i].reply.held.length (zaG s.st.memos[i].reply.held)::zav (s.st.memos.drop (i+1)):=by rw[Nat.add_assoc,←List.drop_drop,hat];rfl
   have hw:=zan hi (by have:=h.memos;omega)
   have hci:=zcT s.st.memos[i].reply.held.length (zaG s.st.memos[i].reply.held) zaW (by have:=(h.held _ (List.getElem_mem hi)).1;omega)
   have hset:=zbP Memo.enc 6 (fun _=>rfl) hi (k:=5) (by decide) (.sl s.st.memos[i].reply.held.length (zaG s.st.memos[i].reply.held)) s.st.memos[i] rfl
   rw[List.set_getElem_self,show i*6+5=i*6+2+3 from rfl]at hset
   repeat'(first|refine zq (I hat2 (I hset (I @zmd (I @List.map_cons.{0,0} @zaj)))) ?_|exact zd (I hat2 (I hset (I @zmd (I @List.map_cons.{0,0} @zaj))))|refine zc (hci) ?_|refine zg (hci) ?_|(refine zaa ?_ ?_<;>intro hb)|(refine And.intro ?_ ?_;exact zI)|(refine And.intro ?_ ?_<;>intro hg)|exact zC|fail)
   exact hK _ (i+1) (Gh.canon [1,2] [] [] (zk hw) rfl rfl) hi rfl (by omega)
  ·have hi:i=s.st.memos.length:=by
    have:¬(i:Int)<s.st.memos.length:=by simpa using hge
    omega
   repeat'(first|refine zq0 ?_|exact zd0|(refine zaa ?_ ?_<;>intro hb)|(refine And.intro ?_ ?_;exact zI)|(refine And.intro ?_ ?_<;>intro hg)|exact zC|fail)
   rfl
theorem zwh (s:Sn):zbg [s.rf] [ztV s]:=⟨⟨.inl rfl, .inl rfl, .inl rfl, .inl rfl, .inl rfl, .inl rfl, .inr ⟨rfl,rfl,zai⟩, .inr ⟨rfl,rfl,zad⟩, .inr ⟨rfl,rfl,zaj⟩,trivial⟩,trivial⟩
theorem zwi (s:St):zbg [s.rf] [znc s]:=⟨⟨.inl rfl, .inl rfl, .inl rfl, .inr ⟨rfl,rfl,zai⟩, .inr ⟨rfl,rfl,zad⟩, .inr ⟨rfl,rfl,zaj⟩,trivial⟩,trivial⟩
abbrev XS.sn (x:XS):Sn:=⟨x.done,x.view,x.slot,x.st⟩
theorem zqD (x:XS) (h:Small x.st):CallOK Tryz.prog 23 [.f x.at] (fun r o=>r=[ztV x.sn]∧o=[]):=by
 refine CallOK.nil ?_
 refine zac zar mixed (T:=Ty) (n:=11) Tryz.func23 (c:=Tryz.f23.body.getD .skip) rfl Tryz.results23 Tryz.ntmps23 Tryz.call23 ?_
 simp only[Tryz.f23,Option.getD]
 have hc:=zhM x.sn h
 repeat'(first|refine zq0 ?_|exact zd0|refine zc (hc) ?_|refine zg (hc) ?_|(refine zaa ?_ ?_<;>intro hb)|(refine And.intro ?_ ?_;exact zI)|(refine And.intro ?_ ?_<;>intro hg)|exact zC|fail)
 exact⟨rfl,zwh x.sn⟩
theorem zkf (x:XS) (h:Small x.st):CallOK Tryz.prog 14 [.f x.at] (fun r o=>r=[znc x.st]∧o=[]):=by
 refine CallOK.nil ?_
 refine zac zar mixed (T:=Ty) (n:=12) Tryz.func14 (c:=Tryz.f14.body.getD .skip) rfl Tryz.results14 Tryz.ntmps14 Tryz.call14 ?_
 simp only[Tryz.f14,Option.getD]
 have hc:=zhM x.sn h
 repeat'(first|refine zq0 ?_|exact zd0|refine zc (hc) ?_|refine zg (hc) ?_|(refine zaa ?_ ?_<;>intro hb)|(refine And.intro ?_ ?_;exact zI)|(refine And.intro ?_ ?_<;>intro hg)|exact zC|fail)
 exact⟨rfl,zwi x.st⟩
theorem zqE (x:XS):CallOK Tryz.prog 24 [.f x.at] (fun r o=>r=[ztV x.sn]∧o=[]):=by
 refine zac zar mixed (T:=Ty) (n:=16) Tryz.func24 (c:=Tryz.f24.body.getD .skip) rfl Tryz.results24 Tryz.ntmps24 Tryz.call24 ?_
 simp only[Tryz.f24,Option.getD]
 repeat'(first|refine zq0 ?_|exact zd0|(refine zaa ?_ ?_<;>intro hb)|(refine And.intro ?_ ?_;exact zI)|(refine And.intro ?_ ?_<;>intro hg)|exact zC|fail)
 rfl
structure Row where
 time:Int
 view:Int
 kind:Int
 acts:List Act
abbrev Row.enc (r:Row):List D:=[uD r.time,uD r.view,uD r.kind, .sl r.acts.length (zkq r.acts)]
abbrev zl7 (l:List Row):List D:=l.flatMap Row.enc
theorem zrr {l:List Row} {i:Nat} (hi:i<l.length):(zl7 l).drop (i*4)=l[i].enc++(zl7 (l.drop (i+1))):=zcy _ 4 l i hi fun _=>rfl
theorem zc8 {l:List Row}:(zl7 l).length=l.length*4:=zb1 _ 4 (fun _=>rfl) l
def rowOk (r:Row):Prop:=zcA r.time∧zcA r.view∧zcA r.kind∧r.acts.length<2^60∧∀a∈r.acts,zkr a
def zfR (s:St):List Act→List Req→List Req
 |[],l=>l
 |a::al0,l=>if decide ((l.length:Int)<3)=true then(if(l.any fun o=>o.client==(zpf s a).client)=true then zfR s al0 l else zfR s al0 (l++[zpf s a]))else l
def zfH (x:XS) (r:Row):Batch:=
 if(r.kind % 8==7)=true then⟨true,0,⟨0,0⟩,0,[]⟩else
 ⟨false,x.view+r.view % 3,⟨x.view,if(r.kind % 8==6)=true then x.slot+1 else x.slot⟩,x.st.time+r.time % 30,zfR x.st r.acts []⟩
structure XMk (x:XS) (i:Nat):Prop where
 rt:RightS x.st
 num:x.st.num≤3*i
 tok:x.st.token≤16*i
 time:x.st.time≤30*i
 view:0≤x.view∧x.view≤3*i
 slot:0≤x.slot∧x.slot≤i
 done:x.done=i
 sq:SqB x.st (3*i)
 lease:x.lease=60
theorem zex {x:XS} {b:Batch} (h:zfI x b=true):b.fill=false∧b.tip.view=x.view∧b.tip.slot=x.slot:=by
 unfold zfI at h
 simp at h
 exact⟨h.1,h.2.1,h.2.2⟩
theorem zsA (a b:Memo):((a.client==b.client)&&(a.seq==b.seq)&&eqRe a.reply b.reply)=ziG a b:=by unfold ziG eqRe;simp only[Bool.and_assoc]
theorem zm3 (a b:Memo) (ha:a.reply.held.length<2^30) (hb:b.reply.held.length<2^30):CallOK Tryz.prog 47 [.f (.agg a.lent), .f (.agg b.lent)] (fun r o=>r=[rb (ziG a b)]∧o=[]):=by
 refine zac zar mixed (T:=Ty) (n:=24) Tryz.func47 (c:=Tryz.f47.body.getD .skip) rfl Tryz.results47 Tryz.ntmps47 Tryz.call47 ?_
 simp only[Tryz.f47,Option.getD]
 have hi:=zke a.reply b.reply ha hb
 repeat'(first|refine zq0 ?_|exact zd0|refine zc (hi) ?_|refine zg (hi) ?_|(refine zaa ?_ ?_<;>intro hb)|(refine And.intro ?_ ?_;exact zI)|(refine And.intro ?_ ?_<;>intro hg)|exact zC|fail)
 rw[zsA]
theorem zm4 (a b:List Memo) (ha:a.length<2^30) (hb:b.length<2^30) (hla:∀x∈a,x.reply.held.length<2^30) (hlb2:∀x∈b,x.reply.held.length<2^30):CallOK Tryz.prog 17 [.f (al a.length (zav a)), .f (al b.length (zav b))] (fun r o=>r=[rb (zc6 ziG a b)]∧o=[]):=by
 refine zac zar mixed (T:=Ty) (n:=27) Tryz.func17 (c:=Tryz.f17.body.getD .skip) rfl Tryz.results17 Tryz.ntmps17 Tryz.call17 ?_
 simp only[Tryz.f17,Option.getD]
 cases hl:((a.length:Int) !=(b.length:Int))
 ·obtain⟨hle,hsr⟩:=zfm (eq:=ziG) hl
  rw[hsr]
  repeat'(first|refine zq hl ?_|exact zd hl|(refine zaa ?_ ?_<;>intro hb)|(refine And.intro ?_ ?_;exact zI)|(refine And.intro ?_ ?_<;>intro hg)|exact zC|fail)
  refine zao (τ:=Nat) (fun i=>⟨[al a.length (zav a),al b.length (zav b),dd,dd,dd,ai i,dd,dd,dd,dd,dd,dd,dd,dd,dd,dd,dd,dd,dd,dd,dd,dd,dd,dd,dd,dd,dd],[]⟩)
   (fun i=>i≤a.length) (fun i=>zfV ziG a b i) (fun i=>a.length - i) 0
   (Gh.canon [] [] [] zK rfl rfl) (Nat.zero_le _) ?_
  intro i hi0 hF K hK
  refine zw ?_
  refine zaa (fun hlt=> ?_) (fun hge=> ?_)
  ·have hi:i<a.length:=by simpa using hlt
   have hi2:i<b.length:=by omega
   have hat:=zbu hi
   have hat2:=zbu hi2
   have hw:=zan hi (by omega)
   have hlb:decide ((i:Int)<a.length)=true:=by simp;omega
   have hst:=zdv (eq:=ziG) hi hi2
   have hsr:=zm3 a[i] b[i] (hla _ (List.getElem_mem hi)) (hlb2 _ (List.getElem_mem hi2))
   cases hq:ziG a[i] b[i]
   ·rw[hq]at hst hsr
    rw[←hF,hst]
    repeat'(first|refine zq (I hat (I hat2 (I hlb (I @zaj zca)))) ?_|exact zd (I hat (I hat2 (I hlb (I @zaj zca))))|refine zc (hsr) ?_|refine zg (hsr) ?_|(refine zaa ?_ ?_<;>intro hb)|(refine And.intro ?_ ?_;exact zI)|(refine And.intro ?_ ?_<;>intro hg)|exact zC|fail)
   ·rw[hq]at hsr
    rw[hq,Bool.true_and]at hst
    repeat'(first|refine zq (I hat (I hat2 (I hlb (I @zaj zca)))) ?_|exact zd (I hat (I hat2 (I hlb (I @zaj zca))))|refine zc (hsr) ?_|refine zg (hsr) ?_|(refine zaa ?_ ?_<;>intro hb)|(refine And.intro ?_ ?_;exact zI)|(refine And.intro ?_ ?_<;>intro hg)|exact zC|fail)
    exact hK _ (i+1) (Gh.canon [] [] [] (zk hw) rfl rfl) hi hst.symm (by omega)
  ·have hi:i=a.length:=by
    have:¬(i:Int)<a.length:=by simpa using hge
    omega
   rw[←hF,zd7 hi]
   repeat'(first|refine zq0 ?_|exact zd0|(refine zaa ?_ ?_<;>intro hb)|(refine And.intro ?_ ?_;exact zI)|(refine And.intro ?_ ?_<;>intro hg)|exact zC|fail)
 ·rw[zfl hl]
  repeat'(first|refine zq hl ?_|exact zd hl|(refine zaa ?_ ?_<;>intro hb)|(refine And.intro ?_ ?_;exact zI)|(refine And.intro ?_ ?_<;>intro hg)|exact zC|fail)
theorem reqsE_snoc {l:List Req} {r:Req}:zbO (l++[r])=zbO l++r.enc:=by simp[zbO]
theorem reqs_take {l:List Req}:(zbO l).take (l.length*5)=zbO l:=zcw Req.enc 5 (fun _=>rfl) l
theorem zpc {l:List Req} {k:Nat} (hk:k<l.length) (c:Int) (b:Bool):(b||(l.drop k).any fun o=>o.client==c)=((b||(l[k].client==c))||(l.drop (k+1)).any fun o=>o.client==c):=by
 rw[List.drop_eq_getElem_cons hk,List.any_cons,Bool.or_assoc]
abbrev ztW (r:Row):Nat×RS:=(3,{next:=2,l:=[some {e:=1,var:=true,fz:=false,sz:=0,cells:=[.d (uD r.time), .d (uD r.view), .d (uD r.kind), .d (.sl r.acts.length (zkq r.acts))]},none,none,none,none]})
abbrev ztX:Nat×RS:=(4,{next:=2,l:=[some {e:=1,var:=true,fz:=false,sz:=0,cells:=[db false,di 0,di 0,di 0,di 0, .d (.v (.slice none 0 0))]},none,none,none,none,none,none]})
set_option maxHeartbeats 4000000 in
theorem zm2 (x:XS) (hsm:Small x.st) (hr:RightS x.st) (r:Row) (h3:r.acts.length<2^60) (h5:∀a∈r.acts,zkr a) (V S Z:Int) (B:Batch) (hB:B=⟨false,V,⟨x.view,S⟩,Z,zfR x.st r.acts []⟩) (c d:Code)
  (hc:zdM 6 (Tryz.f10.body.getD .skip)=some c) (hd:zdM 17 (Tryz.f10.body.getD .skip)=some d):
  awp Ty Tryz.prog c ⟨[x.at,dd,dd, .one (.ptr ⟨3,0,1⟩ 0), .one (.ptr ⟨4,0,1⟩ 0), .one (.ptr ⟨5,0,1⟩ 0),dd,dd,dd,dd,dd,dd,dd,dd,dd,dd,dd,dd,dd,dd,dd,dd,dd,dd,dd,dd,dd,dd,dd,dd,dd,dd,dd,dd,dd,dd,dd,dd,dd,dd,dd,dd,dd,dd,dd,dd,dd,dd,dd,dd,dd,dd,dd,dd,dd,dd,dd,dd,dd,dd,dd,dd,dd,dd,dd,dd,dd,dd,dd,dd,dd,dd,dd,dd,dd,dd,dd,dd,dd,dd,dd,dd,dd,dd,dd,dd,dd,dd,dd,dd,dd,dd,dd,dd,dd,dd,dd,dd,dd,dd,dd],[ztW r,ztX,(5,{next:=2,l:=[some {e:=1,var:=true,fz:=false,sz:=0,cells:=[db false,di V,di x.view,di S,di Z, .d (.v (.slice none 0 0))]},none,none,none,none,none,none]})]⟩ (zgb Ty Tryz.prog d (zsC Ty [.cell 4 34] [] (fun q o=>zbg q [.agg (B.enc.map RO.d)]∧o=[]))):=by
 simp only[Tryz.f10,Option.getD,zdM,Nat.reduceBEq,if_true,if_false,Bool.false_eq_true,Option.none_or,Option.some_or,Option.some.injEq]at hc hd
 subst hc hd
 repeat'(first|refine zq0 ?_|exact zd0|(refine zaa ?_ ?_<;>intro hb)|(refine And.intro ?_ ?_;exact zI)|(refine And.intro ?_ ?_<;>intro hg)|exact zC|fail)
 refine zao (τ:=Nat×List Req) (fun t=>⟨[x.at,dd,dd, .one (.ptr ⟨3,0,1⟩ 0), .one (.ptr ⟨4,0,1⟩ 0), .one (.ptr ⟨5,0,1⟩ 0),ai t.1,dd,dd,dd,dd,dd,dd,dd,dd,dd,dd,dd,dd,dd,dd,dd,dd,dd,dd,dd,dd,dd,dd,dd,dd,dd,dd,dd,dd,dd,dd,dd,dd,dd,dd,dd,dd,dd,dd,dd,dd,dd,dd,dd,dd,dd,dd,dd,dd,dd,dd,dd,dd,dd,dd,dd,dd,dd,dd,dd,dd,dd,dd,dd,dd,dd,dd,dd,dd,dd,dd,dd,dd,dd,dd,dd,dd,dd,dd,dd,dd,dd,dd,dd,dd,dd,dd,dd,dd,dd,dd,dd,dd,dd,dd],[ztW r,ztX,(5,{next:=2,l:=[some {e:=1,var:=true,fz:=false,sz:=0,cells:=[db false,di V,di x.view,di S,di Z, .own ⟨5,6,1⟩ 0 t.2.length]},none,none,none,none,none,some {e:=1,var:=false,fz:=false,sz:=5,cells:=(zbO t.2).map C.d}]}),(7,⟨2,[]⟩),(97,⟨2,[]⟩),(98,⟨2,[]⟩)]⟩)
  (fun t=>t.1≤r.acts.length∧t.2.length≤3) (fun t=>zfR x.st (r.acts.drop t.1) t.2) (fun t=>r.acts.length - t.1) (0,[])
  ((Gh.nilF 5 5 5 rfl).trans (Gh.canon [3,4,5] [7,97,98] [] (zk @zdD) rfl rfl)) ⟨Nat.zero_le _,by simp⟩ ?_
 intro⟨i,l⟩ ⟨j1,j2⟩ hF K hK
 simp only[List.drop_zero]at j1 j2 hF hK⊢
 have hF0:=hF
 have hlt3:decide ((l.length:Int)<3)=true∨decide ((l.length:Int)<3)=false:=by cases decide ((l.length:Int)<3)<;>simp
 by_cases hi:i<r.acts.length
 ·have hlb:decide ((i:Int)<r.acts.length)=true:=by simp;omega
  rw[List.drop_eq_getElem_cons hi,zfR]at hF
  rcases hlt3 with hl3|hl3
  ·rw[if_pos hl3]at hF
   have hl3':l.length<3:=by simp at hl3;omega
   have hat:=zru hi
   have hw:=zan hi (by omega)
   have hrq:=zma x.st hsm hr r.acts[i] (h5 _ (List.getElem_mem hi))
   generalize zpf x.st r.acts[i]=q at*
   repeat'(first|refine zq (I hlb (I hl3 (I hat (I @zk2 zca)))) ?_|exact zd (I hlb (I hl3 (I hat (I @zk2 zca))))|refine zc (hrq) ?_|refine zg (hrq) ?_|(refine zaa ?_ ?_<;>intro hb)|(refine And.intro ?_ ?_;exact zI)|(refine And.intro ?_ ?_<;>intro hg)|exact zC|fail)
   refine zao (τ:=Nat×Bool) (fun u=>⟨[x.at,dd,dd, .one (.ptr ⟨3,0,1⟩ 0), .one (.ptr ⟨4,0,1⟩ 0), .one (.ptr ⟨5,0,1⟩ 0),ai i, .one (.ptr ⟨7,0,1⟩ 0),ab u.2,ai u.1,dd,dd,dd,dd,dd,dd,dd,dd,dd,dd,dd,dd,dd,dd,dd,dd,dd,dd,dd,dd,dd,dd,dd,dd,dd,dd,dd,dd,dd,dd,dd,dd,dd,dd,dd,dd,dd,dd,dd,dd,dd,dd,dd,dd,dd,dd,dd,dd,dd,dd,dd,dd,dd,dd,dd,dd,dd,dd,dd,dd,dd,dd,dd,dd,dd,dd,dd,dd,dd,dd,dd,dd,dd,dd,dd,dd,dd,dd,dd,dd,dd,dd,dd,dd,dd,dd,dd,dd,dd,dd,dd],[ztW r,ztX,(5,{next:=2,l:=[some {e:=1,var:=true,fz:=false,sz:=0,cells:=[db false,di V,di x.view,di S,di Z, .own ⟨5,6,1⟩ 0 l.length]},none,none,none,none,none,some {e:=1,var:=false,fz:=false,sz:=5,cells:=(zbO l).map C.d}]}),(7,{next:=2,l:=[some {e:=1,var:=true,fz:=false,sz:=0,cells:=[di q.client,di q.seq,di q.kind,di q.session,dS q.name]},none,none,none,none,none]}),(97,⟨2,[]⟩),(98,⟨2,[]⟩)]⟩)
    (fun u=>u.1≤l.length) (fun u=>u.2||(l.drop u.1).any fun o=>o.client==q.client) (fun u=>l.length - u.1) (0,false)
    (Gh.canon [3,4,5,7] [] [] (zk @zdD) rfl rfl) (Nat.zero_le _) ?_
   intro⟨k,inn⟩ m1 hG K2 hK2
   simp only[List.drop_zero,Bool.false_or]at m1 hG hK2⊢
   by_cases hk:k<l.length
   ·have hkb:decide ((k:Int)<l.length)=true:=by simp;omega
    have hkat:=zdL hk
    have hkw:=zan hk (by omega)
    have hst:=zpc hk q.client inn
    cases inn
    ·cases hq:(l[k].client==q.client)
     ·rw[hq]at hst
      repeat'(first|refine zq (I hkb (I @zmd (I hkat (I hq (I @List.map_cons.{0,0} (I @zaX zca)))))) ?_|exact zd (I hkb (I @zmd (I hkat (I hq (I @List.map_cons.{0,0} (I @zaX zca))))))|(refine zaa ?_ ?_<;>intro hb)|(refine And.intro ?_ ?_;exact zI)|(refine And.intro ?_ ?_<;>intro hg)|exact zC|fail)
      refine hK2 _ (k+1,false) (Gh.canon [3,4,5,7] [] [] (zk (I hkw @zdD)) rfl rfl) hk hst.symm (by simp only;omega)
     ·rw[hq]at hst
      repeat'(first|refine zq (I hkb (I @zmd (I hkat (I hq (I @List.map_cons.{0,0} (I @zaX zca)))))) ?_|exact zd (I hkb (I @zmd (I hkat (I hq (I @List.map_cons.{0,0} (I @zaX zca))))))|(refine zaa ?_ ?_<;>intro hb)|(refine And.intro ?_ ?_;exact zI)|(refine And.intro ?_ ?_<;>intro hg)|exact zC|fail)
      refine hK2 _ (k+1,true) (Gh.canon [3,4,5,7] [] [] (zk (I hkw @zdD)) rfl rfl) hk hst.symm (by simp only;omega)
    ·repeat'(first|refine zq (I hkb (I @zmd (I hkat (I @List.map_cons.{0,0} (I @zaX zca))))) ?_|exact zd (I hkb (I @zmd (I hkat (I @List.map_cons.{0,0} (I @zaX zca)))))|(refine zaa ?_ ?_<;>intro hb)|(refine And.intro ?_ ?_;exact zI)|(refine And.intro ?_ ?_<;>intro hg)|exact zC|fail)
     refine hK2 _ (k+1,true) (Gh.canon [3,4,5,7] [] [] (zk (I hkw @zdD)) rfl rfl) hk (by simp) (by simp only;omega)
   ·have hk':k=l.length:=by omega
    have hkb:decide ((k:Int)<l.length)=false:=by simp;omega
    rw[hk',List.drop_length,List.any_nil,Bool.or_false]at hG
    cases inn
    ·rw[if_neg (by rw[←hG];simp)]at hF
     have hle:((l.length+1)*48≤2^47)=True:=eq_true (by omega)
     repeat'(first|refine zq (I hkb (I hle @reqs_take)) ?_|exact zd (I hkb (I hle @reqs_take))|(refine zaa ?_ ?_<;>intro hb)|(refine And.intro ?_ ?_;exact zI)|(refine And.intro ?_ ?_<;>intro hg)|exact zC|fail)
     refine hK _ (i+1,l++[q]) (Gh.canon [3,4,5] [] [] (zk (I hw (I @zdD (I @List.length_append.{0} @List.length_singleton.{0})))) rfl (by simp only[List.length_append,List.length_singleton];rw[reqsE_snoc];rfl)) ⟨hi,by simp only[List.length_append,List.length_singleton];omega⟩ (hF.trans hF0.symm) (by simp only;omega)
    ·rw[if_pos hG.symm]at hF
     repeat'(first|refine zq hkb ?_|exact zd hkb|(refine zaa ?_ ?_<;>intro hb)|(refine And.intro ?_ ?_;exact zI)|(refine And.intro ?_ ?_<;>intro hg)|exact zC|fail)
     refine hK _ (i+1,l) (Gh.canon [3,4,5] [] [] (zk (I hw @zdD)) rfl rfl) ⟨hi,j2⟩ (hF.trans hF0.symm) (by simp only;omega)
  ·rw[if_neg (by rw[hl3];simp)]at hF
   repeat'(first|refine zq (I hlb hl3) ?_|exact zd (I hlb hl3)|(refine zaa ?_ ?_<;>intro hb)|(refine And.intro ?_ ?_;exact zI)|(refine And.intro ?_ ?_<;>intro hg)|exact zC|fail)
   rw[hB,←hF]
   exact⟨⟨.inl rfl, .inl rfl, .inl rfl, .inl rfl, .inl rfl, .inr ⟨rfl,rfl,zaX⟩,trivial⟩,trivial⟩
 ·have hi':i=r.acts.length:=by omega
  have hlb:decide ((i:Int)<r.acts.length)=false:=by simp;omega
  rw[hi',List.drop_length,zfR]at hF
  repeat'(first|refine zq hlb ?_|exact zd hlb|(refine zaa ?_ ?_<;>intro hb)|(refine And.intro ?_ ?_;exact zI)|(refine And.intro ?_ ?_<;>intro hg)|exact zC|fail)
  rw[hB,←hF]
  exact⟨⟨.inl rfl, .inl rfl, .inl rfl, .inl rfl, .inl rfl, .inr ⟨rfl,rfl,zaX⟩,trivial⟩,trivial⟩
set_option maxHeartbeats 4000000 in
theorem zpd (x:XS) (hsm:Small x.st) (hr:RightS x.st) (hv:0≤x.view∧x.view≤zaT) (hs:0≤x.slot∧x.slot<2^60) (r:Row) (h:rowOk r):
  CallOK Tryz.prog 10 [.f x.at, .f (.agg [.d (uD r.time), .d (uD r.view), .d (uD r.kind), .d (.sl r.acts.length (zkq r.acts))])] (fun q o=>q=[.agg ((zfH x r).enc.map RO.d)]∧o=[]):=by
 have hH:zaT=2305843009213693952:=rfl
 refine CallOK.nil ?_
 refine zac zar mixed (T:=Ty) (n:=101) Tryz.func10 (c:=Tryz.f10.body.getD .skip) rfl Tryz.results10 Tryz.ntmps10 Tryz.call10 ?_
 simp only[Tryz.f10,Option.getD]
 obtain⟨h1,h2,h3,h4,h5⟩:=h
 have ht0:=hr.time
 have tk:r.kind.tmod 8=r.kind % 8:=zb6 h3.1 8
 cases k7:(r.kind % 8==7)
 case true=>
  have hb:zfH x r=⟨true,0,⟨0,0⟩,0,[]⟩:=by unfold zfH;rw[if_pos k7]
  rw[hb]
  repeat'(first|refine zq (I tk k7) ?_|exact zd (I tk k7)|(refine zaa ?_ ?_<;>intro hb)|(refine And.intro ?_ ?_;exact zI)|(refine And.intro ?_ ?_<;>intro hg)|exact zC|fail)
  simp[zbg,zdg,zbp,zaY]
 have hv0:=zcR h2
 have hv1:r.view.tmod 3=r.view % 3:=zb6 h2.1 3
 have ht1:=zcR h1
 have ht2:r.time.tmod 30=r.time % 30:=zb6 h1.1 30
 have hw1:IntKind.i64.wrap (x.view+r.view % 3)=x.view+r.view % 3:=wrap64 (by omega) (by omega)
 have hw2:IntKind.i64.wrap (x.st.time+r.time % 30)=x.st.time+r.time % 30:=wrap64 (by omega) (by omega)
 have hw3:IntKind.i64.wrap (x.slot+1)=x.slot+1:=wrap64 (by omega) (by omega)
 have hb:zfH x r=⟨false,x.view+r.view % 3,⟨x.view,if(r.kind % 8==6)=true then x.slot+1 else x.slot⟩,x.st.time+r.time % 30,zfR x.st r.acts []⟩:=by unfold zfH;rw[if_neg (by rw[k7];simp)]
 rw[hb]
 obtain⟨V,hV⟩:∃V,V=x.view+r.view % 3:=⟨_,rfl⟩
 obtain⟨Z,hZ⟩:∃Z,Z=x.st.time+r.time % 30:=⟨_,rfl⟩
 rw[←hV]at hw1⊢
 rw[←hZ]at hw2⊢
 obtain⟨S,hS⟩:∃S,S=if(r.kind % 8==6)=true then x.slot+1 else x.slot:=⟨_,rfl⟩
 rw[←hS]
 have tail:=zm2 x hsm hr r h4 h5 V S Z ⟨false,V,⟨x.view,S⟩,Z,zfR x.st r.acts []⟩ rfl
 cases k6:(r.kind % 8==6)
 ·rw[k6]at hS
  have hS:S=x.slot:=hS
  repeat'(first|(with_reducible first|refine zaZ 6 ?_|refine zaK 6 ?_|refine zaL 6 ?_)|refine zu (I tk (I k7 (I k6 (I hv0 (I hv1 (I ht1 (I ht2 (I (Eq.symm hV) (I hw1 (I (Eq.symm hZ) hw2)))))))))) ?_|exact zd (I tk (I k7 (I k6 (I hv0 (I hv1 (I ht1 (I ht2 (I (Eq.symm hV) (I hw1 (I (Eq.symm hZ) hw2))))))))))|(with_reducible first|refine zab _ _ ?_)|(refine zaa ?_ ?_<;>intro hb)|(refine And.intro ?_ ?_;exact zI)|(refine And.intro ?_ ?_<;>intro hg)|exact zC|fail)
  refine zny ?_ (tail _ _ (by kernel_rfl) (by kernel_rfl))
  rw[hS]
  exact Gh.canon [3,4,5] [] [] (zk @zdD) rfl rfl
 ·rw[k6]at hS
  have hS:S=x.slot+1:=hS
  repeat'(first|(with_reducible first|refine zaZ 6 ?_|refine zaK 6 ?_|refine zaL 6 ?_)|refine zu (I tk (I k7 (I k6 (I hv0 (I hv1 (I ht1 (I ht2 (I (Eq.symm hV) (I hw1 (I (Eq.symm hZ) (I hw2 hw3))))))))))) ?_|exact zd (I tk (I k7 (I k6 (I hv0 (I hv1 (I ht1 (I ht2 (I (Eq.symm hV) (I hw1 (I (Eq.symm hZ) (I hw2 hw3)))))))))))|(with_reducible first|refine zab _ _ ?_)|(refine zaa ?_ ?_<;>intro hb)|(refine And.intro ?_ ?_;exact zI)|(refine And.intro ?_ ?_<;>intro hg)|exact zC|fail)
  refine zny ?_ (tail _ _ (by kernel_rfl) (by kernel_rfl))
  rw[hS]
  exact Gh.canon [3,4,5] [] [] (zk @zdD) rfl rfl
theorem zkg {s:St} {l:List Memo} {rs:List Req} {i:Nat} (hi:i<rs.length):zfn s (rs.drop i) l=zfn (za6 s rs[i]).1 (rs.drop (i+1)) (if zbc s.memos rs[i].client rs[i].seq= -1 then l else l++[⟨rs[i].client,rs[i].seq,(za6 s rs[i]).2.1⟩]):=by
 rw[List.drop_eq_getElem_cons hi,zfn]
abbrev xsR (nx:Nat) (l d v s:Int) (st:St):Nat×RS:=(0,{next:=nx,l:=[some {e:=0,var:=true,fz:=false,bor:=true,sz:=0,cells:=[di l,di d,di v,di s,di st.time,di st.num,di st.token, .d (.sl st.sess.length (zaF st.sess)), .d (.sl st.locks.length (zah st.locks)), .d (.sl st.memos.length (zav st.memos))]},none,none,none,none,none,none,none,none,none,none]})
theorem memosE_snoc {l:List Memo} {m:Memo}:zav (l++[m])=zav l++m.enc:=by simp[zav]
set_option maxHeartbeats 4000000 in
theorem zpb (x:XS) (b:Batch) (hb:b.ok) (hr:RightS x.st) (hN:x.st.num+3≤zaT) (hT:x.st.token+16≤zaT) (hd:0≤x.done∧x.done<2^60):
  CallOK Tryz.prog 12 [.obj x.ro, .f (.agg b.lent)] (fun r o=>r=[.one (.own 6 (doP x b).2.1.length (zav (doP x b).2.1) false),rb (doP x b).2.2]∧o=[(doP x b).1.ro]):=by
 refine CallOK.nil ?_
 refine zac zar mixed (T:=Ty) (n:=102) Tryz.func12 (c:=Tryz.f12.body.getD .skip) rfl Tryz.results12 Tryz.ntmps12 Tryz.call12 ?_
 simp only[Tryz.f12,Option.getD]
 have hmay:=zkY b hb
 have hval:=zqv ⟨x.view,x.slot⟩ b
 have hw1:IntKind.i64.wrap (x.done+1)=x.done+1:=wrap64 (by omega) (by omega)
 have hv':zfI x b=(!b.fill&&(b.tip.view==x.view&&b.tip.slot==x.slot)):=rfl
 cases hm:Batch.may b
 ·rw[hm]at hmay
  have hP:doP x b=(x,[],false):=by unfold doP;rw[if_pos hm]
  rw[hP]
  repeat'(first|refine zq0 ?_|exact zd0|refine zc (hmay) ?_|refine zg (hmay) ?_|(refine zaa ?_ ?_<;>intro hb)|(refine And.intro ?_ ?_;exact zI)|(refine And.intro ?_ ?_<;>intro hg)|exact zC|fail)
  simp[zbg,zdg,zaY]
 rw[hm]at hmay
 cases hv:zfI x b
 ·rw[←hv',hv]at hval
  have hP:doP x b=({x with done:=x.done+1},[],false):=by unfold doP;rw[if_neg (by rw[hm];simp),if_pos hv]
  rw[hP]
  repeat'(first|refine zq hw1 ?_|exact zd hw1|refine zc (hmay) ?_|refine zg (hmay) ?_|refine zc (hval) ?_|refine zg (hval) ?_|(refine zaa ?_ ?_<;>intro hb)|(refine And.intro ?_ ?_;exact zI)|(refine And.intro ?_ ?_<;>intro hg)|exact zC|fail)
  simp[zbg,zdg,zaY]
 rw[←hv',hv]at hval
 have hP:doP x b=(⟨x.lease,x.done+1,b.view,x.done+1,(ziH x b).1⟩,(ziH x b).2,true):=by unfold doP;rw[if_neg (by rw[hm];simp),if_neg (by rw[hv];simp)]
 rw[hP]
 obtain⟨_,_,_,_,hl3,_,_⟩:=zey hm (zex hv).1
 have hadv:=zmc x.st (zbJ hr) hr b.time x.lease
 obtain⟨r1,r2,r3,r4,r5⟩:=zcJ hr b.time x.lease (by omega)
 have hran:ziH x b=zfn (zbk x.st b.time x.lease) b.reqs []:=rfl
 rw[hran]
 generalize zbk x.st b.time x.lease=s0 at*
 repeat'(first|refine zq hw1 ?_|exact zd hw1|refine zc (hmay) ?_|refine zg (hmay) ?_|refine zc (hval) ?_|refine zg (hval) ?_|refine zc (hadv) ?_|refine zg (hadv) ?_|(refine zaa ?_ ?_<;>intro hb)|(refine And.intro ?_ ?_;exact zI)|(refine And.intro ?_ ?_<;>intro hg)|exact zC|fail)
 refine zao (τ:=Nat×St×List Memo) (fun t=>⟨[.one (.ptr ⟨0,0,0⟩ 0),dd,dd,dd,dd,dd, .one (.ptr ⟨6,0,1⟩ 0), .one (.own ⟨7,1,1⟩ 0 t.2.2.length),dd,dd,dd,dd,dd,dd,dd,dd,dd,dd,dd,dd,dd,dd,dd,dd,dd,dd,dd,dd,dd,dd,dd,dd,dd,dd,dd,dd,dd,dd,dd,dd,dd,dd,dd,dd,dd,dd,dd,dd,dd,dd,dd,dd,dd,dd,dd,dd,dd,dd,dd,dd,dd,dd,dd,al b.reqs.length (zbO b.reqs),ai b.reqs.length,ai t.1,dd,dd,dd,dd,dd,dd,dd,dd,dd,dd,dd,dd,dd,dd,dd,dd,dd,dd,dd,dd,dd,dd,dd,dd,dd,dd,dd,dd,dd,dd,dd,dd,dd,dd,dd,dd],[xsR 4 x.lease (x.done+1) b.view (x.done+1) x.st,(3,⟨2,[]⟩),(6,{next:=2,l:=[some {e:=1,var:=true,fz:=false,sz:=0,cells:=[di t.2.1.time,di t.2.1.num,di t.2.1.token, .d (.sl t.2.1.sess.length (zaF t.2.1.sess)), .d (.sl t.2.1.locks.length (zah t.2.1.locks)), .d (.sl t.2.1.memos.length (zav t.2.1.memos))]},none,none,none,none,none,none]}),(7,{next:=2,l:=[none,some {e:=1,var:=false,fz:=false,sz:=6,cells:=(zav t.2.2).map C.d}]}),(9,⟨2,[]⟩),(11,⟨2,[]⟩),(12,⟨2,[]⟩),(79,⟨2,[]⟩),(93,⟨2,[]⟩),(94,⟨2,[]⟩)]⟩)
  (fun t=>t.1≤b.reqs.length∧RightS t.2.1∧t.2.1.num≤x.st.num+t.1∧t.2.1.token≤x.st.token+4+4*t.1∧t.2.2.length≤t.1) (fun t=>zfn t.2.1 (b.reqs.drop t.1) t.2.2) (fun t=>b.reqs.length - t.1) (0,s0,[])
  ((Gh.nil (i:=7) (s:=7) (sz:=6) rfl).trans (Gh.canon [0,6,7] [9,11,12,79,93,94] [0] zK rfl rfl)) ⟨Nat.zero_le _,r1,by simp only;omega,by simp only;omega,Nat.le_refl _⟩ ?_
 intro⟨i,s,l⟩ ⟨j1,j2,j3,j4,j5⟩ hF K hK
 simp only[List.drop_zero]at j1 j2 j3 j4 j5 hF hK⊢
 refine zw ?_
 refine zaa (fun hlt=> ?_) (fun hge=> ?_)
 ·have hi:i<b.reqs.length:=by simpa using hlt
  have hF0:=hF
  rw[zkg hi]at hF
  have hat:=zdL hi
  have hw:=zan hi (by omega)
  have hro:=hb.2.2.2.2.2 _ (List.getElem_mem hi)
  have hstep:∀s' l',zfn s' (b.reqs.drop (i+1)) l'=zfn s' (b.reqs.drop (i+1)) l':=fun _ _=>rfl
  generalize b.reqs[i]=q at*
  have hsm:=zbJ j2
  have hfr:=zix s.memos j2.ms hsm.memos q.client q.seq
  have hap:=zpl s hsm j2 q hro (fun hm=>zfq j2 hm (by omega) (by omega))
  obtain⟨d1,d2,d3,d4,d5⟩:=zdw j2 q (by omega) (by omega)
  generalize (za6 s q).1=s1 at*
  generalize (za6 s q).2.1=rep at*
  generalize (za6 s q).2.2=okb at*
  have hln:((zbO b.reqs).length=b.reqs.length*5)=True:=eq_true zaX
  cases f:(zbc s.memos q.client q.seq != -1)
  ·have f':zbc s.memos q.client q.seq= -1:=by simpa using f
   rw[if_pos f']at hF
   repeat'(first|refine zq (I hat (I @zaX (I f zca))) ?_|exact zd (I hat (I @zaX (I f zca)))|refine zc (hfr) ?_|refine zg (hfr) ?_|refine zc (hap) ?_|refine zg (hap) ?_|(refine zaa ?_ ?_<;>intro hb)|(refine And.intro ?_ ?_;exact zI)|(refine And.intro ?_ ?_<;>intro hg)|exact zC|fail)
   refine hK _ (i+1,s1,l) (Gh.canon [0,6,7] [] [0] (zk hw) rfl rfl) ⟨hi,d1,by simp only;omega,by simp only;omega,by simp only;omega⟩ (hF.trans hF0.symm) (by simp only;omega)
  ·have f':¬zbc s.memos q.client q.seq= -1:=by simpa using f
   rw[if_neg f']at hF
   have hle:((l.length+1)*64≤2^47)=True:=eq_true (by omega)
   repeat'(first|refine zq (I hat (I @zaX (I f (I hle (I @zcr (I @zaU zca)))))) ?_|exact zd (I hat (I @zaX (I f (I hle (I @zcr (I @zaU zca))))))|refine zc (hfr) ?_|refine zg (hfr) ?_|refine zc (hap) ?_|refine zg (hap) ?_|(refine zaa ?_ ?_<;>intro hb)|(refine And.intro ?_ ?_;exact zI)|(refine And.intro ?_ ?_<;>intro hg)|exact zC|fail)
   refine hK _ (i+1,s1,l++[⟨q.client,q.seq,rep⟩]) (Gh.canon [0,6,7] [] [0] (zk (I hw (I @List.length_append.{0} @List.length_singleton.{0}))) rfl (by simp only[List.length_append,List.length_singleton];rw[memosE_snoc];rfl)) ⟨hi,d1,by simp only;omega,by simp only;omega,by simp only[List.length_append,List.length_singleton];omega⟩ (hF.trans hF0.symm) (by simp only;omega)
 ·have hi:i=b.reqs.length:=by
   have:¬(i:Int)<b.reqs.length:=by simpa using hge
   omega
  rw[hi,List.drop_length,zfn]at hF
  rw[←hF]
  repeat'(first|refine zq @zaU ?_|exact zd @zaU|(refine zaa ?_ ?_<;>intro hb)|(refine And.intro ?_ ?_;exact zI)|(refine And.intro ?_ ?_<;>intro hg)|exact zC|fail)
  simp[zbg,zdg,zaY]
set_option maxHeartbeats 4000000 in
theorem zty (x:XS) (b:Batch) (hb:b.ok) (hr:RightS x.st) (hN:x.st.num+3≤zaT) (hT:x.st.token+16≤zaT) (hd:0≤x.done∧x.done<2^60):
  CallOK Tryz.prog 11 [.obj x.ro, .f (.agg b.lent)] (fun r o=>r=[.one (.own 6 (doP x b).2.1.length (zav (doP x b).2.1) false),rb (doP x b).2.2]∧o=[(doP x b).1.ro]):=by
 refine CallOK.nil ?_
 refine zac zar mixed (T:=Ty) (n:=102) Tryz.func11 (c:=Tryz.f11.body.getD .skip) rfl Tryz.results11 Tryz.ntmps11 Tryz.call11 ?_
 simp only[Tryz.f11,Option.getD]
 have hmay:=zkb b hb
 have hval:=zoT ⟨x.view,x.slot⟩ b
 have hw1:IntKind.i64.wrap (x.done+1)=x.done+1:=wrap64 (by omega) (by omega)
 have hv':zfI x b=(!b.fill&&(b.tip.view==x.view&&b.tip.slot==x.slot)):=rfl
 cases hm:Batch.may b
 ·rw[hm]at hmay
  have hP:doP x b=(x,[],false):=by unfold doP;rw[if_pos hm]
  rw[hP]
  repeat'(first|refine zq0 ?_|exact zd0|refine zc (hmay) ?_|refine zg (hmay) ?_|(refine zaa ?_ ?_<;>intro hb)|(refine And.intro ?_ ?_;exact zI)|(refine And.intro ?_ ?_<;>intro hg)|exact zC|fail)
  simp[zbg,zdg,zaY]
 rw[hm]at hmay
 cases hv:zfI x b
 ·rw[←hv',hv]at hval
  have hP:doP x b=({x with done:=x.done+1},[],false):=by unfold doP;rw[if_neg (by rw[hm];simp),if_pos hv]
  rw[hP]
  repeat'(first|refine zq hw1 ?_|exact zd hw1|refine zc (hmay) ?_|refine zg (hmay) ?_|refine zc (hval) ?_|refine zg (hval) ?_|(refine zaa ?_ ?_<;>intro hb)|(refine And.intro ?_ ?_;exact zI)|(refine And.intro ?_ ?_<;>intro hg)|exact zC|fail)
  simp[zbg,zdg,zaY]
 rw[←hv',hv]at hval
 have hP:doP x b=(⟨x.lease,x.done+1,b.view,x.done+1,(ziH x b).1⟩,(ziH x b).2,true):=by unfold doP;rw[if_neg (by rw[hm];simp),if_neg (by rw[hv];simp)]
 rw[hP]
 obtain⟨_,_,_,_,hl3,_,_⟩:=zey hm (zex hv).1
 have hadv:=zkW x.st (zbJ hr) hr b.time x.lease
 obtain⟨r1,r2,r3,r4,r5⟩:=zcJ hr b.time x.lease (by omega)
 have hran:ziH x b=zfn (zbk x.st b.time x.lease) b.reqs []:=rfl
 rw[hran]
 generalize zbk x.st b.time x.lease=s0 at*
 repeat'(first|refine zq hw1 ?_|exact zd hw1|refine zc (hmay) ?_|refine zg (hmay) ?_|refine zc (hval) ?_|refine zg (hval) ?_|refine zc (hadv) ?_|refine zg (hadv) ?_|(refine zaa ?_ ?_<;>intro hb)|(refine And.intro ?_ ?_;exact zI)|(refine And.intro ?_ ?_<;>intro hg)|exact zC|fail)
 refine zao (τ:=Nat×St×List Memo) (fun t=>⟨[.one (.ptr ⟨0,0,0⟩ 0),dd,dd, .one (.ptr ⟨3,0,1⟩ 0),dd,dd, .one (.own ⟨6,1,1⟩ 0 t.2.2.length),ai t.1,dd,dd,dd,dd,dd,dd,dd,dd,dd,dd,dd,dd,dd,dd,dd,dd,dd,dd,dd,dd,dd,dd,dd,dd,dd,dd,dd,dd,dd,dd,dd,dd,dd,dd,dd,dd,dd,dd,dd,dd,dd,dd,dd,dd,dd,dd,dd,dd,dd,dd,dd,dd,dd,dd,dd,dd,dd,dd,dd,dd,dd,dd,dd,dd,dd,dd,dd,dd,dd,dd,dd,dd,dd,dd,dd,dd,dd,dd,dd,dd,dd,dd,dd,dd,dd,dd,dd,dd,dd,dd,dd,dd,dd,dd],[xsR (10+6*t.1) x.lease (x.done+1) b.view (x.done+1) t.2.1,(3,{next:=2,l:=[some {e:=1,var:=true,fz:=false,sz:=0,cells:=[db b.fill,di b.view,di b.tip.view,di b.tip.slot,di b.time, .lent b.reqs.length (zbO b.reqs)]},none,none,none,none,none,none]}),(6,{next:=2,l:=[none,some {e:=1,var:=false,fz:=false,sz:=6,cells:=(zav t.2.2).map C.d}]}),(8,⟨2,[]⟩),(10,⟨2,[]⟩),(11,⟨2,[]⟩),(82,⟨2,[]⟩),(99,⟨2,[]⟩),(100,⟨2,[]⟩)]⟩)
  (fun t=>t.1≤b.reqs.length∧RightS t.2.1∧t.2.1.num≤x.st.num+t.1∧t.2.1.token≤x.st.token+4+4*t.1∧t.2.2.length≤t.1) (fun t=>zfn t.2.1 (b.reqs.drop t.1) t.2.2) (fun t=>b.reqs.length - t.1) (0,s0,[])
  ((Gh.nil (i:=6) (s:=6) (sz:=6) rfl).trans (Gh.canon [0,3,6] [8,10,11,82,99,100] [0] zK rfl rfl)) ⟨Nat.zero_le _,r1,by simp only;omega,by simp only;omega,Nat.le_refl _⟩ ?_
 intro⟨i,s,l⟩ ⟨j1,j2,j3,j4,j5⟩ hF K hK
 simp only[List.drop_zero]at j1 j2 j3 j4 j5 hF hK⊢
 refine zw ?_
 refine zaa (fun hlt=> ?_) (fun hge=> ?_)
 ·have hi:i<b.reqs.length:=by simpa using hlt
  have hF0:=hF
  rw[zkg hi]at hF
  have hat:=zdL hi
  have hw:=zan hi (by omega)
  have hro:=hb.2.2.2.2.2 _ (List.getElem_mem hi)
  have hstep:∀s' l',zfn s' (b.reqs.drop (i+1)) l'=zfn s' (b.reqs.drop (i+1)) l':=fun _ _=>rfl
  generalize b.reqs[i]=q at*
  have hsm:=zbJ j2
  have hfr:=zgT s.memos (by have:=hsm.memos;omega) q.client q.seq
  have hap:=zoD s hsm j2 q hro (fun hm=>zks j2 hm (by omega) (by omega)) (fun hm=>zfq j2 hm (by omega) (by omega))
  have hnx:10+6*i+6=10+6*(i+1):=by omega
  obtain⟨d1,d2,d3,d4,d5⟩:=zdw j2 q (by omega) (by omega)
  generalize (za6 s q).1=s1 at*
  generalize (za6 s q).2.1=rep at*
  generalize (za6 s q).2.2=okb at*
  have hln:((zbO b.reqs).length=b.reqs.length*5)=True:=eq_true zaX
  cases f:decide (zbc s.memos q.client q.seq≥0)
  ·have f':zbc s.memos q.client q.seq= -1:=by rcases zgU s.memos q.client q.seq with e|e|e<;>simp[e]at f⊢
   rw[if_pos f']at hF
   repeat'(first|refine zq (I hat (I @zaX (I f zca))) ?_|exact zd (I hat (I @zaX (I f zca)))|refine zc (hfr) ?_|refine zg (hfr) ?_|refine zc (hap) ?_|refine zg (hap) ?_|(refine zaa ?_ ?_<;>intro hb)|(refine And.intro ?_ ?_;exact zI)|(refine And.intro ?_ ?_<;>intro hg)|exact zC|fail)
   refine hK _ (i+1,s1,l) (Gh.canon [0,3,6] [] [0] (zk hw) rfl rfl) ⟨hi,d1,by simp only;omega,by simp only;omega,by simp only;omega⟩ (hF.trans hF0.symm) (by simp only;omega)
  ·have f':¬zbc s.memos q.client q.seq= -1:=by simp at f;omega
   rw[if_neg f']at hF
   have hle:((l.length+1)*64≤2^47)=True:=eq_true (by omega)
   repeat'(first|refine zq (I hat (I @zaX (I f (I hle (I @zcr (I @zaU zca)))))) ?_|exact zd (I hat (I @zaX (I f (I hle (I @zcr (I @zaU zca))))))|refine zc (hfr) ?_|refine zg (hfr) ?_|refine zc (hap) ?_|refine zg (hap) ?_|(refine zaa ?_ ?_<;>intro hb)|(refine And.intro ?_ ?_;exact zI)|(refine And.intro ?_ ?_<;>intro hg)|exact zC|fail)
   refine hK _ (i+1,s1,l++[⟨q.client,q.seq,rep⟩]) (Gh.canon [0,3,6] [] [0] (zk (I hw (I @List.length_append.{0} @List.length_singleton.{0}))) rfl (by simp only[List.length_append,List.length_singleton];rw[memosE_snoc];rfl)) ⟨hi,d1,by simp only;omega,by simp only;omega,by simp only[List.length_append,List.length_singleton];omega⟩ (hF.trans hF0.symm) (by simp only;omega)
 ·have hi:i=b.reqs.length:=by
   have:¬(i:Int)<b.reqs.length:=by simpa using hge
   omega
  rw[hi,List.drop_length,zfn]at hF
  rw[←hF]
  repeat'(first|refine zq @zaU ?_|exact zd @zaU|(refine zaa ?_ ?_<;>intro hb)|(refine And.intro ?_ ?_;exact zI)|(refine And.intro ?_ ?_<;>intro hg)|exact zC|fail)
  simp[zbg,zdg,zaY]
def ztv:Batch:=⟨true,0,⟨0,0⟩,0,[]⟩
def ztw:Batch:=⟨false,3,⟨0,0⟩,7,[⟨2,1,1,0, .empty⟩]⟩
def sOne:St:=⟨7,1,0,[⟨2,1,7⟩],[],[⟨2,1,⟨0,1,0,[]⟩⟩]⟩
theorem zsz:doP (zpj 10) ztv=(⟨10,1,0,0,st0⟩,[],false):=by kernel_rfl
theorem ztx:doP ⟨10,1,0,0,st0⟩ ztw=(⟨10,2,3,2,sOne⟩,[⟨2,1,⟨0,1,0,[]⟩⟩],true):=by kernel_rfl
set_option maxHeartbeats 2000000 in
theorem zm1:CallOK Tryz.prog 20 [] (fun r o=>r=[rb true]∧o=[]):=by
 refine zac zar mixed (T:=Ty) (n:=68) Tryz.func20 (c:=Tryz.f20.body.getD .skip) rfl Tryz.results20 Tryz.ntmps20 Tryz.call20 ?_
 simp only[Tryz.f20,Option.getD]
 have n1:=zo9 10 rfl
 have n0:=zl5 0 rfl
 have d1:=zpb (zpj 10) ztv ⟨by unfold i64;decide,by unfold i64;decide,by unfold i64;decide,by unfold i64;decide,by decide,fun r hr=>by cases hr⟩ zeR (by decide) (by decide) (by decide)
 rw[zsz]at d1
 have d1:CallOK Tryz.prog 12 [.obj (zpj 10).ro, .f (.agg [db true,di 0,di 0,di 0,di 0, .lent 0 []])] (fun r o=>r=[.one (.own 6 0 [] false),rb false]∧o=[XS.ro ⟨10,1,0,0,st0⟩]):=d1
 have d2:=zpb ⟨10,1,0,0,st0⟩ ztw ⟨by unfold i64;decide,by unfold i64;decide,by unfold i64;decide,by unfold i64;decide,by decide,fun r hr=>by
  simp only[ztw,List.mem_singleton]at hr
  subst hr
  exact⟨by unfold i64;decide,by unfold i64;decide,by unfold i64;decide,by unfold i64;decide,by decide⟩⟩ zeR (by decide) (by decide) (by decide)
 rw[ztx]at d2
 have d2:CallOK Tryz.prog 12 [.obj (XS.ro ⟨10,1,0,0,st0⟩), .f (.agg [db false,di 3,di 0,di 0,di 7, .lent 1 [iD 2,iD 1,iD 1,iD 0,sD .empty]])] (fun r o=>r=[.one (.own 6 1 [iD 2,iD 1,iD 0,iD 1,iD 0, .sl 0 []] false),rb true]∧o=[XS.ro ⟨10,2,3,2,sOne⟩]):=d2
 have hr2:RightS sOne:=by
  have h:=(ziM (x:=⟨10,1,0,0,st0⟩) (b:=ztw) zeR (by decide) (by decide) (by decide)).1
  have e:(ziH ⟨10,1,0,0,st0⟩ ztw).1=sOne:=by kernel_rfl
  rwa[e]at h
 have c1:=zl6 ⟨10,2,3,2,sOne⟩
 have c2:=zpa ⟨10,2,3,2,sOne⟩
 have c3:=zkf ⟨10,2,3,2,sOne⟩ (zbJ hr2)
 repeat'(first|(with_reducible first|refine zab _ _ ?_|refine zaP ?_|refine zaQ ?_)|rw[zak]|simp only[zY,Int.reduceEq,Int.reduceBEq,Int.reduceBNe,Nat.reduceSub,Nat.reduceEqDiff,Nat.reduceAdd,Nat.reduceMul,Nat.reduceLeDiff,Nat.reduceLT,Nat.reduceBEq,reduceCtorEq]|((first|((try refine zaz ?_);apply zaD)|(apply zaB;intro _));(solve|exact(n0)|(refine CallOK.le (n0) ?_;exact zM)|fail);try case hn=>rfl)|refine zdd (n1) ?_|(refine zdd (CallP.le (n1) ?_) ?_;focus(simp[zcf,aLe,zlp,cLe]<;>fail))|refine zam ?_|refine zaa (fun hb=> ?_) (fun hb=> ?_)|(refine And.intro ?_ ?_;exact zI)|refine And.intro (fun hg=> ?_) (fun hg=> ?_)|exact zC|fail)
 refine zj (d1) ?_
 repeat'(first|(with_reducible first|refine zab _ _ ?_|refine zaP ?_|refine zaQ ?_)|rw[zak]|simp only[zY,Int.reduceEq,Int.reduceBEq,Int.reduceBNe,Nat.reduceSub,Nat.reduceEqDiff,Nat.reduceAdd,Nat.reduceMul,Nat.reduceLeDiff,Nat.reduceLT,Nat.reduceBEq,reduceCtorEq]|((first|((try refine zaz ?_);apply zaD)|(apply zaB;intro _));(solve|exact(n0)|(refine CallOK.le (n0) ?_;exact zM)|fail);try case hn=>rfl)|refine zdd (n1) ?_|(refine zdd (CallP.le (n1) ?_) ?_;focus(simp[zcf,aLe,zlp,cLe]<;>fail))|refine zam ?_|refine zaa (fun hb=> ?_) (fun hb=> ?_)|(refine And.intro ?_ ?_;exact zI)|refine And.intro (fun hg=> ?_) (fun hg=> ?_)|exact zC|fail)
 refine zj (d2) ?_
 have hs7:(sOne.time==(7:Int))=true:=rfl
 have z1:((2:Int)==2)=true:=rfl
 have z2:((1:Int)==1)=true:=rfl
 have z3:((0:Int)==0)=true:=rfl
 repeat'(first|refine zq (I hs7 (I z1 (I z2 z3))) ?_|exact zd (I hs7 (I z1 (I z2 z3)))|refine zc (n0) ?_|refine zg (n0) ?_|refine zc (c1) ?_|refine zg (c1) ?_|refine zc (c2) ?_|refine zg (c2) ?_|refine zc (c3) ?_|refine zg (c3) ?_|(refine zaa ?_ ?_<;>intro hb)|(refine And.intro ?_ ?_;exact zI)|(refine And.intro ?_ ?_<;>intro hg)|exact zC|fail)
 rfl
def ztU (a b:Sn):Bool:=(a.done==b.done)&&((a.view==b.view)&&(a.slot==b.slot))&&ztC a.st b.st
theorem zk1 (a b:Sn) (ha:Small a.st) (hb:Small b.st):CallOK Tryz.prog 22 [.f (.agg a.lent), .f (.agg b.lent)] (fun r o=>r=[rb (ztU a b)]∧o=[]):=by
 refine zac zar mixed (T:=Ty) (n:=24) Tryz.func22 (c:=Tryz.f22.body.getD .skip) rfl Tryz.results22 Tryz.ntmps22 Tryz.call22 ?_
 simp only[Tryz.f22,Option.getD]
 have hs:=zl4 a.st b.st ha hb
 repeat'(first|refine zq0 ?_|exact zd0|refine zc (hs) ?_|refine zg (hs) ?_|(refine zaa ?_ ?_<;>intro hb)|(refine And.intro ?_ ?_;exact zI)|(refine And.intro ?_ ?_<;>intro hg)|exact zC|fail)
 rfl
theorem zdu {α:Type} {eq:α→α→Bool} (h:∀a,eq a a=true) (l:List α):zc6 eq l l=true:=by
 unfold zc6
 simp only[beq_self_eq_true,Bool.true_and,List.all_eq_true]
 intro p hp
 obtain⟨j,h1,h2⟩:=List.getElem_of_mem hp
 rw[←h2,List.getElem_zip]
 exact h _
theorem zmW (l:List Int):zc6 zmX l l=true:=zdu (fun x=>by simp[zmX]) l
theorem zkd (l:List Grant):zc6 zqA l l=true:=zdu (fun x=>by simp[zqA]) l
theorem zl3 (s:St):ztC s s=true:=by
 unfold ztC
 rw[zdu (fun a=>by simp[zsx]),zdu (fun a=>by simp[zqB,zmW]),zdu (fun a=>by simp[ziG,zkd])]
 simp
theorem zqz (s:Sn):ztU s s=true:=by simp[ztU,zl3]
def ztT (s:St) (q:Req):List Memo:=if zbc s.memos q.client q.seq= -1 then []else [⟨q.client,q.seq,(za6 s q).2.1⟩]
theorem zo6 (s:St) (q:Req) (rs:List Req) (l:List Memo):zfn s (q::rs) l=zfn (za6 s q).1 rs (l++ztT s q):=by
 rw[zfn,ztT]
 split
 ·rw[List.append_nil]
 ·rfl
def Live (s:St) (L:Int):Prop:=∀x∈s.sess,s.time - x.renewed<L
abbrev xO (s:Nat) (x:XS):Nat×RS:=(s,{next:=2,l:=[some {e:=1,var:=true,fz:=false,sz:=0,cells:=[di x.lease,di x.done,di x.view,di x.slot,di x.st.time,di x.st.num,di x.st.token, .d (.sl x.st.sess.length (zaF x.st.sess)), .d (.sl x.st.locks.length (zah x.st.locks)), .d (.sl x.st.memos.length (zav x.st.memos))]},none,none,none,none,none,none,none,none,none,none]})
theorem zk0 (l:List Memo):zc6 ziG l l=true:=zdu (fun a=>by simp[ziG,zkd]) l
structure XCan (x:XS):Prop where
 rt:RightS x.st
 sm:Small x.st
 nm:x.st.num+3≤zaT
 tk:x.st.token+16≤zaT
 dn:0≤x.done∧x.done<2^60
 vw:0≤x.view∧x.view≤zaT
 sl:0≤x.slot∧x.slot<2^60
end Go.Proofs.YtngleemijkaeoaaGreat
