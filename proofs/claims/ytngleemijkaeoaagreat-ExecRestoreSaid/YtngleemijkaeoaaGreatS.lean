import Derived.Test.YtngleemijkaeoaaGreatP
namespace Go.Proofs.YtngleemijkaeoaaGreat
open Go.Pk
set_option maxRecDepth 100000
set_option linter.unusedSimpArgs false
set_option linter.unusedVariables false
abbrev stE (s:St):List D:=[iD s.time,iD s.num,iD s.token, .sl s.sess.length (zaE s.sess), .sl s.locks.length (zaf s.locks), .sl s.memos.length (zav s.memos)]
abbrev zoJ (s:St):RF:= .agg ((stE s).map RO.d)
abbrev ze9 (a:Reply):RF:= .agg [.d (iD a.code), .d (iD a.session), .d (iD a.ahead), .own 2 a.held.length (zaH a.held) false]
structure Small (s:St):Prop where
 sess:s.sess.length<2^30
 locks:s.locks.length<2^30
 memos:s.memos.length<2^30
 line:∀k∈s.locks,k.line.length<2^30∧k.name.size<2^62
 held:∀m∈s.memos,zcA m.reply
set_option maxHeartbeats 1000000 in
theorem zkk (s:St) (h:Small s):CallOK Tryz.prog 38 [.f (.agg s.lent)] (fun r o=>r=[s.rf]∧o=[]):=by
 refine zac zar mixed (T:=Ty) (n:=58) Tryz.func38 (c:=Tryz.f38.body.getD .skip) rfl Tryz.results38 Tryz.ntmps38 Tryz.call38 ?_
 simp only[Tryz.f38,Option.getD]
 have hcs:=zeJ s.sess.length (zaE s.sess) zai (by have:=h.sess;omega)
 have hcl:=zgd s.locks.length (zaf s.locks) zae (by have:=h.locks;omega)
 have hcm:=zge s.memos.length (zav s.memos) zak (by have:=h.memos;omega)
 repeat'(first|refine zq0 ?_|exact zd0|refine zc (hcs) ?_|refine zg (hcs) ?_|refine zc (hcl) ?_|refine zg (hcl) ?_|refine zc (hcm) ?_|refine zg (hcm) ?_|(refine zaa ?_ ?_<;>intro hb)|(refine And.intro ?_ ?_;exact zI)|(refine And.intro ?_ ?_<;>intro hg)|exact zC|fail)
 refine zao (τ:=Nat) (fun i=>⟨[dd, .one (.ptr ⟨1,0,1⟩ 0), .one (.ptr ⟨2,0,1⟩ 0),dd,dd,dd,dd,dd,dd,dd,dd,dd,dd,dd,dd,ai s.locks.length,ai i,dd,dd,dd,dd,dd,dd,dd,dd,dd,dd,dd,dd,dd,dd,dd,dd,dd,dd,dd,dd,dd,dd,dd,dd,dd,dd,dd,dd,dd,dd,dd,dd,dd,dd,dd,dd,dd,dd,dd,dd,dd],[(1,{next:=2,l:=[some {e:=1,var:=true,fz:=false,sz:=0,cells:=[di s.time,di s.num,di s.token, .own ⟨1,4,1⟩ 0 s.sess.length, .own ⟨1,5,1⟩ 0 s.locks.length, .lent s.memos.length (zav s.memos)]},none,none,none,some {e:=1,var:=false,fz:=false,sz:=3,cells:=(zaE s.sess).map C.d},some {e:=1,var:=false,fz:=false,sz:=4,cells:=(zaf s.locks).map C.d},none]}),(2,{next:=2,l:=[some {e:=1,var:=true,fz:=false,sz:=0,cells:=[di 0,di 0,di 0, .d (.v (.slice none 0 0)), .d (.v (.slice none 0 0)), .d (.v (.slice none 0 0))]},none,none,none,none,none,none]}),(7,⟨2,[]⟩),(11,⟨2,[]⟩),(28,⟨2,[]⟩)]⟩)
  (fun i=>i≤s.locks.length) (fun _=>()) (fun i=>s.locks.length - i) 0
  (Gh.canon [1,2] [28] [] zK rfl rfl) (Nat.zero_le _) ?_
 intro i hi0 hF K hK
 refine zw ?_
 refine zaa (fun hlt=> ?_) (fun hge=> ?_)
 ·have hi:i<s.locks.length:=by simpa using hlt
  have hat:=zaO hi
  have hat2:(zaf s.locks).drop (i*4+3)= .sl s.locks[i].line.length (zaw s.locks[i].line)::zaf (s.locks.drop (i+1)):=by rw[←List.drop_drop,hat];rfl
  have hw:=zan hi (by have:=h.locks;omega)
  have hci:=zc5 s.locks[i].line.length (zaw s.locks[i].line) zah (by have:=(h.line _ (List.getElem_mem hi)).1;omega)
  have hset:=zb2 Lk.enc 4 (fun _=>rfl) hi (k:=3) (by decide) (.sl s.locks[i].line.length (zaw s.locks[i].line)) s.locks[i] rfl
  rw[List.set_getElem_self]at hset
  repeat'(first|refine zq (I hat2 (I hset (I @zmd (I @List.map_cons.{0,0} @zae)))) ?_|exact zd (I hat2 (I hset (I @zmd (I @List.map_cons.{0,0} @zae))))|refine zc (hci) ?_|refine zg (hci) ?_|(refine zaa ?_ ?_<;>intro hb)|(refine And.intro ?_ ?_;exact zI)|(refine And.intro ?_ ?_<;>intro hg)|exact zC|fail)
  exact hK _ (i+1) (Gh.canon [1,2] [] [] (zk hw) rfl rfl) hi rfl (by omega)
 ·have hi:i=s.locks.length:=by
   have:¬(i:Int)<s.locks.length:=by simpa using hge
   omega
  repeat'(first|refine zq0 ?_|exact zd0|refine zc (hcm) ?_|refine zg (hcm) ?_|(refine zaa ?_ ?_<;>intro hb)|(refine And.intro ?_ ?_;exact zI)|(refine And.intro ?_ ?_<;>intro hg)|exact zC|fail)
  refine zao (τ:=Nat) (fun i=>⟨[dd, .one (.ptr ⟨1,0,1⟩ 0), .one (.ptr ⟨2,0,1⟩ 0),dd,dd,dd,dd,dd,dd,dd,dd,dd,dd,dd,dd,dd,dd,dd,dd,dd,dd,dd,dd,dd,dd,dd,dd,dd,dd,dd,dd,dd,dd,dd,dd,dd,dd,dd,ai s.memos.length,ai i,dd,dd,dd,dd,dd,dd,dd,dd,dd,dd,dd,dd,dd,dd,dd,dd,dd,dd],[(1,{next:=2,l:=[some {e:=1,var:=true,fz:=false,sz:=0,cells:=[di s.time,di s.num,di s.token, .own ⟨1,4,1⟩ 0 s.sess.length, .own ⟨1,5,1⟩ 0 s.locks.length, .own ⟨1,6,1⟩ 0 s.memos.length]},none,none,none,some {e:=1,var:=false,fz:=false,sz:=3,cells:=(zaE s.sess).map C.d},some {e:=1,var:=false,fz:=false,sz:=4,cells:=(zaf s.locks).map C.d},some {e:=1,var:=false,fz:=false,sz:=6,cells:=(zav s.memos).map C.d}]}),(2,{next:=2,l:=[some {e:=1,var:=true,fz:=false,sz:=0,cells:=[di 0,di 0,di 0, .d (.v (.slice none 0 0)), .d (.v (.slice none 0 0)), .d (.v (.slice none 0 0))]},none,none,none,none,none,none]}),(7,⟨2,[]⟩),(11,⟨2,[]⟩),(28,⟨2,[]⟩),(34,⟨2,[]⟩),(52,⟨2,[]⟩)]⟩)
   (fun i=>i≤s.memos.length) (fun _=>()) (fun i=>s.memos.length - i) 0
   (Gh.canon [1,2] [52] [] zK rfl rfl) (Nat.zero_le _) ?_
  intro i hi0 hF K hK
  refine zw ?_
  refine zaa (fun hlt=> ?_) (fun hge=> ?_)
  ·have hi:i<s.memos.length:=by simpa using hlt
   have hat:=zbx hi
   have hat2:(zav s.memos).drop (i*6+2+3)= .sl s.memos[i].reply.held.length (zaH s.memos[i].reply.held)::zav (s.memos.drop (i+1)):=by rw[Nat.add_assoc,←List.drop_drop,hat];rfl
   have hw:=zan hi (by have:=h.memos;omega)
   have hci:=zc6 s.memos[i].reply.held.length (zaH s.memos[i].reply.held) za8 (by have:=(h.held _ (List.getElem_mem hi)).1;omega)
   have hset:=zb2 Memo.enc 6 (fun _=>rfl) hi (k:=5) (by decide) (.sl s.memos[i].reply.held.length (zaH s.memos[i].reply.held)) s.memos[i] rfl
   rw[List.set_getElem_self,show i*6+5=i*6+2+3 from rfl]at hset
   repeat'(first|refine zq (I hat2 (I hset (I @zmd (I @List.map_cons.{0,0} @zak)))) ?_|exact zd (I hat2 (I hset (I @zmd (I @List.map_cons.{0,0} @zak))))|refine zc (hci) ?_|refine zg (hci) ?_|(refine zaa ?_ ?_<;>intro hb)|(refine And.intro ?_ ?_;exact zI)|(refine And.intro ?_ ?_<;>intro hg)|exact zC|fail)
   exact hK _ (i+1) (Gh.canon [1,2] [] [] (zk hw) rfl rfl) hi rfl (by omega)
  ·have hi:i=s.memos.length:=by
    have:¬(i:Int)<s.memos.length:=by simpa using hge
    omega
   repeat'(first|refine zq0 ?_|exact zd0|(refine zaa ?_ ?_<;>intro hb)|(refine And.intro ?_ ?_;exact zI)|(refine And.intro ?_ ?_<;>intro hg)|exact zC|fail)
   rfl
theorem zkl (gone:List Int) (hg:gone.length<2^62) (x:Sess):CallOK Tryz.prog 77 [.f (zhk x), .f (.one (.eltR [.lent gone.length (zaw gone)]))] (fun r o=>r=[rb (hasI gone x.client)]∧o=[]):=by
 refine zac zar mixed (T:=Ty) (n:=8) Tryz.func77 (c:=Tryz.f77.body.getD .skip) rfl Tryz.results77 Tryz.ntmps77 Tryz.call77 ?_
 simp only[Tryz.f77,Option.getD]
 repeat'(first|refine zq0 ?_|exact zd0|refine zc (zbk gone hg x.client) ?_|refine zg (zbk gone hg x.client) ?_|(refine zaa ?_ ?_<;>intro hb)|(refine And.intro ?_ ?_;exact zI)|(refine And.intro ?_ ?_<;>intro hg)|exact zC|fail)
 rfl
abbrev zl4 (l:List Sess) (gone:List Int):List Sess:=l.filter fun x=> !hasI gone x.client
theorem zio (s:St) (h:Small s) (ht:0≤s.token∧s.token≤zaL) (gone:List Int) (hg:gone.length<2^30):
  CallOK Tryz.prog 39 [.agr [di s.time,di s.num,di s.token] [.d (.sl s.locks.length (zaf s.locks)), .d (.sl s.memos.length (zav s.memos))] 3 s.sess.length (zaE s.sess), .f (al gone.length (zaw gone))]
  (fun r o=>r=[.agg [.d (iD s.time), .d (iD s.num), .d (iD (s.token+(zcb s.locks gone s.token).2)), .own 3 (zl4 s.sess gone).length (zaE (zl4 s.sess gone)) true,
   .own 4 (zcb s.locks gone s.token).1.length (zaf (zcb s.locks gone s.token).1) false, .d (.sl s.memos.length (zav s.memos))]]∧o=[[]]):=by
 refine zac zar mixed (T:=Ty) (n:=27) Tryz.func39 (c:=Tryz.f39.body.getD .skip) rfl Tryz.results39 Tryz.ntmps39 Tryz.call39 ?_
 simp only[Tryz.f39,Option.getD]
 have hH:zaL=2^61:=by decide
 have hdp:=zt5 s.locks h.locks (fun k hk=>(h.line k hk).1) gone hg s.token (by omega)
 have hdf:=zo9 s.sess (by have:=h.sess;omega) (fun x=>hasI gone x.client) 77 [.eltR [.lent gone.length (zaw gone)]] (fun _=>rfl) (fun _=>rfl) (fun _ _=>rfl) (fun _=>rfl) (fun x _=>zkl gone (by omega) x)
 obtain⟨⟨g1,g2⟩,_⟩:=zcZ gone s.token (s.locks.map (zam gone)) 0 (Int.le_refl _)
 have g1:0≤(zcb s.locks gone s.token).2:=g1
 have g2:(zcb s.locks gone s.token).2≤0+(s.locks.map (zam gone)).length:=g2
 rw[List.length_map]at g2
 have hw:IntKind.i64.wrap (s.token+(zcb s.locks gone s.token).2)=s.token+(zcb s.locks gone s.token).2:=wrap64 (by omega) (by have:=h.locks;omega)
 repeat'(first|refine zq hw ?_|exact zd hw|refine zc (hdp) ?_|refine zg (hdp) ?_|(refine zaa ?_ ?_<;>intro hb)|(refine And.intro ?_ ?_;exact zI)|(refine And.intro ?_ ?_<;>intro hg)|exact zC|fail)
 refine zbT (mv:= ?mv1) (lent:= ?le1) 0 ?ha1 (hdf) ?hb1 ?hc1
 case ha1=>(try simp only[zB,zaG,Nat.reduceSub,Nat.reduceEqDiff,Nat.reduceAdd,Nat.reduceMul,Nat.reduceLeDiff,Nat.reduceLT,Nat.reduceBEq,reduceCtorEq]);exact rfl
 case hb1=>(try simp only[zB,scM,Nat.reduceSub,Nat.reduceEqDiff,Nat.reduceAdd,Nat.reduceMul,Nat.reduceLeDiff,Nat.reduceLT,Nat.reduceBEq,reduceCtorEq]);repeat'(first|rfl|trivial|omega|with_reducible refine And.intro ?_ ?_)
 show aops _ _ _ _ _ _ _ _
 repeat'(first|refine zq0 ?_|exact zd0|(refine zaa ?_ ?_<;>intro hb)|(refine And.intro ?_ ?_;exact zI)|(refine And.intro ?_ ?_<;>intro hg)|exact zC|fail)
 rfl
theorem zkm {s:St} (h:Small s) (now lease:Int):(zgP s.sess now lease).length<2^30:=by
 unfold zgP
 split
 ·simp
 ·rw[List.length_map]
  exact Nat.lt_of_le_of_lt (List.length_filter_le ..) h.sess
set_option maxHeartbeats 1000000 in
theorem ziq (s:St) (h:Small s) (hr:RightS s) (time lease:Int):CallOK Tryz.prog 13 [.f (.agg s.lent), .f (ai time), .f (ai lease)]
  (fun r o=>r=[zoJ (zaU s time lease)]∧o=[]):=by
 refine CallOK.nil ?_
 refine zac zar mixed (T:=Ty) (n:=28) Tryz.func13 (c:=Tryz.f13.body.getD .skip) rfl Tryz.results13 Tryz.ntmps13 Tryz.call13 ?_
 simp only[Tryz.f13,Option.getD]
 have hcp:=zkk s h
 have h':Small {s with time:=zbL s time}:=⟨h.sess,h.locks,h.memos,h.line,h.held⟩
 have hdu:=zu9 s.sess h.sess (zbL s time) (max lease 1) (fun x hx=>(zb6.1 (hr.sok x hx).1).2.2)
 have hwo:=zio {s with time:=zbL s time} h' hr.token (zgP s.sess (zbL s time) (max lease 1)) (zkm h _ _)
 cases ha:decide (time>s.time)&&decide (time≤2305843009213693952)
 ·have htp:zbL s time=s.time:=by unfold zbL;rw[show(decide (time>s.time)&&decide (time≤zaL))=false from ha];rfl
  rw[htp]at hdu hwo
  repeat'(first|(with_reducible first|refine za3 4 ?_|refine zaP 4 ?_|refine zaQ 4 ?_)|refine zu ha ?_|exact zd ha|(with_reducible first|refine zab _ _ ?_)|refine zc (hcp) ?_|refine zg (hcp) ?_|(refine zaa ?_ ?_<;>intro hb)|(refine And.intro ?_ ?_;exact zI)|(refine And.intro ?_ ?_<;>intro hg)|exact zC|fail)
  refine za9 (za2 (Gh.sealF 3 4 (.own ⟨3,5,11⟩ 0 s.locks.length) ?_) ?_)
  ·exact zo0
  refine zf0 ?_
  refine za2 (Gh.sealF 3 5 (.own ⟨3,6,12⟩ 0 s.memos.length) ?_) ?_
  ·exact zo0
  refine zf0 ?_
  repeat'(first|(with_reducible first|refine zab _ _ ?_|refine zaV ?_|refine zaW ?_)|rw[zaj]|simp only[zfc,zY,Int.reduceEq,Int.reduceBEq,Int.reduceBNe,Nat.reduceSub,Nat.reduceEqDiff,Nat.reduceAdd,Nat.reduceMul,Nat.reduceLeDiff,Nat.reduceLT,Nat.reduceBEq,reduceCtorEq]|((first|((try refine zax ?_);apply zaA)|(apply zaB;intro _));(solve|exact(hdu)|(refine CallOK.le (hdu) ?_;exact zM)|fail);try case hn=>rfl)|refine zal ?_|refine zaa (fun hb=> ?_) (fun hb=> ?_)|(refine And.intro ?_ ?_;exact zI)|refine And.intro (fun hg=> ?_) (fun hg=> ?_)|exact zC|fail)
  refine zbT (mv:= ?mv2) (lent:= ?le2) 0 ?ha2 (hwo) ?hb2 ?hc2
  case ha2=>(try simp only[zaG,zY,List.contains_nil,Nat.reduceSub,Nat.reduceEqDiff,Nat.reduceAdd,Nat.reduceMul,Nat.reduceLeDiff,Nat.reduceLT,Nat.reduceBEq,reduceCtorEq]);exact rfl
  case hb2=>(try simp only[scM,zY,List.contains_nil,Nat.reduceSub,Nat.reduceEqDiff,Nat.reduceAdd,Nat.reduceMul,Nat.reduceLeDiff,Nat.reduceLT,Nat.reduceBEq,reduceCtorEq]);repeat'(first|rfl|trivial|omega|with_reducible refine And.intro ?_ ?_)
  show aops _ _ _ _ _ _ _ _
  repeat'(first|refine zq0 ?_|exact zd0|(refine zaa ?_ ?_<;>intro hb)|(refine And.intro ?_ ?_;exact zI)|(refine And.intro ?_ ?_<;>intro hg)|exact zC|fail)
  refine⟨rfl, ?_⟩
  have hav:zaU s time lease=za7 {s with time:=s.time} (zgP s.sess s.time (max lease 1)):=by unfold zaU;rw[htp]
  rw[hav]
  exact⟨⟨.inl rfl, .inl rfl, .inl rfl, .inr ⟨rfl,rfl,zai⟩, .inr ⟨rfl,rfl,zae⟩, .inl rfl,trivial⟩,trivial⟩
 ·have htp:zbL s time=time:=by unfold zbL;rw[show(decide (time>s.time)&&decide (time≤zaL))=true from ha];rfl
  rw[htp]at hdu hwo
  repeat'(first|(with_reducible first|refine za3 4 ?_|refine zaP 4 ?_|refine zaQ 4 ?_)|refine zu ha ?_|exact zd ha|(with_reducible first|refine zab _ _ ?_)|refine zc (hcp) ?_|refine zg (hcp) ?_|(refine zaa ?_ ?_<;>intro hb)|(refine And.intro ?_ ?_;exact zI)|(refine And.intro ?_ ?_<;>intro hg)|exact zC|fail)
  refine za9 (za2 (Gh.sealF 3 4 (.own ⟨3,5,11⟩ 0 s.locks.length) ?_) ?_)
  ·exact zo0
  refine zf0 ?_
  refine za2 (Gh.sealF 3 5 (.own ⟨3,6,12⟩ 0 s.memos.length) ?_) ?_
  ·exact zo0
  refine zf0 ?_
  repeat'(first|(with_reducible first|refine zab _ _ ?_|refine zaV ?_|refine zaW ?_)|rw[zaj]|simp only[zfc,zY,Int.reduceEq,Int.reduceBEq,Int.reduceBNe,Nat.reduceSub,Nat.reduceEqDiff,Nat.reduceAdd,Nat.reduceMul,Nat.reduceLeDiff,Nat.reduceLT,Nat.reduceBEq,reduceCtorEq]|((first|((try refine zax ?_);apply zaA)|(apply zaB;intro _));(solve|exact(hdu)|(refine CallOK.le (hdu) ?_;exact zM)|fail);try case hn=>rfl)|refine zal ?_|refine zaa (fun hb=> ?_) (fun hb=> ?_)|(refine And.intro ?_ ?_;exact zI)|refine And.intro (fun hg=> ?_) (fun hg=> ?_)|exact zC|fail)
  refine zbT (mv:= ?mv3) (lent:= ?le3) 0 ?ha3 (hwo) ?hb3 ?hc3
  case ha3=>(try simp only[zaG,zY,List.contains_nil,Nat.reduceSub,Nat.reduceEqDiff,Nat.reduceAdd,Nat.reduceMul,Nat.reduceLeDiff,Nat.reduceLT,Nat.reduceBEq,reduceCtorEq]);exact rfl
  case hb3=>(try simp only[scM,zY,List.contains_nil,Nat.reduceSub,Nat.reduceEqDiff,Nat.reduceAdd,Nat.reduceMul,Nat.reduceLeDiff,Nat.reduceLT,Nat.reduceBEq,reduceCtorEq]);repeat'(first|rfl|trivial|omega|with_reducible refine And.intro ?_ ?_)
  show aops _ _ _ _ _ _ _ _
  repeat'(first|refine zq0 ?_|exact zd0|(refine zaa ?_ ?_<;>intro hb)|(refine And.intro ?_ ?_;exact zI)|(refine And.intro ?_ ?_<;>intro hg)|exact zC|fail)
  refine⟨rfl, ?_⟩
  have hav:zaU s time lease=za7 {s with time:=time} (zgP s.sess time (max lease 1)):=by unfold zaU;rw[htp]
  rw[hav]
  exact⟨⟨.inl rfl, .inl rfl, .inl rfl, .inr ⟨rfl,rfl,zai⟩, .inr ⟨rfl,rfl,zae⟩, .inl rfl,trivial⟩,trivial⟩
abbrev zxO (b:St) (x:Sess):Bool:= !((zaF b.sess x.client).any fun y=>y.num==x.num)
theorem zhb (n:Int):CallOK Tryz.prog 163 [.f (ai n)] (fun r o=>r=[rb (within n)]∧o=[]):=by
 refine zac zar mixed (T:=Ty) (n:=9) Tryz.func163 (c:=Tryz.f163.body.getD .skip) rfl Tryz.results163 Tryz.ntmps163 Tryz.call163 ?_
 simp only[Tryz.f163,Option.getD]
 repeat'(first|refine zq0 ?_|exact zd0|(refine zaa ?_ ?_<;>intro hb)|(refine And.intro ?_ ?_;exact zI)|(refine And.intro ?_ ?_<;>intro hg)|exact zC|fail)
 rfl
theorem zoW (s:St) (h:Small s) (hs:SS s.sess):CallOK Tryz.prog 167 [.f (.agg s.lent)] (fun r o=>r=[rb (zga s)]∧o=[]):=by
 refine zac zar mixed (T:=Ty) (n:=40) Tryz.func167 (c:=Tryz.f167.body.getD .skip) rfl Tryz.results167 Tryz.ntmps167 Tryz.call167 ?_
 simp only[Tryz.f167,Option.getD]
 have hL:=h.locks
 repeat'(first|refine zq0 ?_|exact zd0|(refine zaa ?_ ?_<;>intro hb)|(refine And.intro ?_ ?_;exact zI)|(refine And.intro ?_ ?_<;>intro hg)|exact zC|fail)
 refine zao (τ:=Nat) (fun i=>⟨[dd, .one (.ptr ⟨1,0,1⟩ 0),dd,ab true,dd,dd,dd,dd,dd,dd,dd,al s.locks.length (zaf s.locks),ai s.locks.length,ai i,dd,dd,dd,dd,dd,dd,dd,dd,dd,dd,dd,dd,dd,dd,dd,dd,dd,dd,dd,dd,dd,dd,dd,dd,dd,dd],[(1,{next:=2,l:=[some {e:=1,var:=true,fz:=false,sz:=0,cells:=[di s.time,di s.num,di s.token, .lent s.sess.length (zaE s.sess), .lent s.locks.length (zaf s.locks), .lent s.memos.length (zav s.memos)]},none,none,none,none,none,none]}),(5,⟨2,[]⟩),(8,⟨2,[]⟩),(19,⟨2,[]⟩),(22,⟨2,[]⟩)]⟩)
  (fun i=>i≤s.locks.length) (fun i=>(s.locks.drop i).all fun k=>(k.holder::k.line).all fun c=>(zaF s.sess c).isSome) (fun i=>s.locks.length - i) 0
  (Gh.canon [1] [5,8,19,22] [] zK rfl rfl) (Nat.zero_le _) ?_
 intro i hi0 hF K hK
 rw[List.drop_zero]at hF
 refine zw ?_
 refine zaa (fun hlt=> ?_) (fun hge=> ?_)
 ·have hi:i<s.locks.length:=by simpa using hlt
  have hat:=zaO hi
  have hw:=zan hi (by omega)
  have hli:=(h.line _ (List.getElem_mem hi)).1
  rw[List.drop_eq_getElem_cons hi,List.all_cons]at hF
  obtain⟨c,hc⟩:∃c,c=s.locks[i].holder::s.locks[i].line:=⟨_,rfl⟩
  have hcl:c.length=1+s.locks[i].line.length:=by rw[hc,List.length_cons];omega
  rw[←hc]at hF
  repeat'(first|refine zq (I hat (I @zae (I @zah zca))) ?_|exact zd (I hat (I @zae (I @zah zca)))|(refine zaa ?_ ?_<;>intro hb)|(refine And.intro ?_ ?_;exact zI)|(refine And.intro ?_ ?_<;>intro hg)|exact zC|fail)
  refine zao (τ:=Nat) (fun j=>⟨[dd, .one (.ptr ⟨1,0,1⟩ 0),dd,ab true,dd,dd,dd,dd,dd,dd,dd,al s.locks.length (zaf s.locks),ai s.locks.length,ai i,dd,dd,dd,dd,dd,dd,dd,dd, .one (.own ⟨19,1,1⟩ 0 c.length),ai c.length,ai j,dd,dd,dd,dd,dd,dd,dd,dd,dd,dd,dd,dd,dd,dd,dd],[(1,{next:=2,l:=[some {e:=1,var:=true,fz:=false,sz:=0,cells:=[di s.time,di s.num,di s.token, .lent s.sess.length (zaE s.sess), .lent s.locks.length (zaf s.locks), .lent s.memos.length (zav s.memos)]},none,none,none,none,none,none]}),(5,⟨2,[]⟩),(8,⟨2,[]⟩),(19,{next:=2,l:=[none,some {e:=1,var:=false,fz:=false,sz:=1,cells:=(zaw c).map C.d}]}),(22,⟨2,[]⟩)]⟩)
   (fun j=>j≤c.length) (fun j=>(c.drop j).all fun c=>(zaF s.sess c).isSome) (fun j=>c.length - j) 0
   (Gh.canon [1,19] [] [] (zk hcl) rfl (by rw[hc];rfl)) (Nat.zero_le _) ?_
  intro j hj0 hF2 K2 hK2
  rw[List.drop_zero]at hF2
  refine zw ?_
  refine zaa (fun hlt2=> ?_) (fun hge2=> ?_)
  ·have hj:j<c.length:=by simpa using hlt2
   have haj:=zcN hj
   have hwj:=zan hj (by omega)
   have hfi:=zjU s.sess hs (by have:=h.sess;omega) c[j]
   rw[List.drop_eq_getElem_cons hj,List.all_cons]at hF2
   cases hb:(zaF s.sess c[j]).isSome
   ·rw[hb]at hfi hF2
    rw[←hF2]at hF
    repeat'(first|refine zq (I haj (I @zmd (I @List.map_cons.{0,0} (I @zah zca)))) ?_|exact zd (I haj (I @zmd (I @List.map_cons.{0,0} (I @zah zca))))|refine zc (hfi) ?_|refine zg (hfi) ?_|(refine zaa ?_ ?_<;>intro hb)|(refine And.intro ?_ ?_;exact zI)|(refine And.intro ?_ ?_<;>intro hg)|exact zC|fail)
    unfold zga
    rw[←hF]
    rfl
   ·rw[hb]at hfi hF2
    repeat'(first|refine zq (I haj (I @zmd (I @List.map_cons.{0,0} (I @zah zca)))) ?_|exact zd (I haj (I @zmd (I @List.map_cons.{0,0} (I @zah zca))))|refine zc (hfi) ?_|refine zg (hfi) ?_|(refine zaa ?_ ?_<;>intro hb)|(refine And.intro ?_ ?_;exact zI)|(refine And.intro ?_ ?_<;>intro hg)|exact zC|fail)
    exact hK2 _ (j+1) (Gh.canon [1,19] [] [] (zk hwj) rfl rfl) hj (by rw[List.drop_eq_getElem_cons hj,List.all_cons,hb,Bool.true_and]) (by omega)
  ·have hj:j=c.length:=by
    have:¬(j:Int)<c.length:=by simpa using hge2
    omega
   rw[hj,List.drop_length,List.all_nil]at hF2
   rw[←hF2,Bool.true_and]at hF
   repeat'(first|refine zq0 ?_|exact zd0|(refine zaa ?_ ?_<;>intro hb)|(refine And.intro ?_ ?_;exact zI)|(refine And.intro ?_ ?_<;>intro hg)|exact zC|fail)
   exact hK _ (i+1) (Gh.canon [1] [] [] (zk hw) rfl rfl) hi (by rw[List.drop_eq_getElem_cons hi,List.all_cons,←hc,←hF2,Bool.true_and]) (by omega)
 ·have hi:i=s.locks.length:=by
   have:¬(i:Int)<s.locks.length:=by simpa using hge
   omega
  rw[hi,List.drop_length,List.all_nil]at hF
  repeat'(first|refine zq0 ?_|exact zd0|(refine zaa ?_ ?_<;>intro hb)|(refine And.intro ?_ ?_;exact zI)|(refine And.intro ?_ ?_<;>intro hg)|exact zC|fail)
  unfold zga
  rw[←hF]
set_option maxHeartbeats 1000000 in
theorem zq8 (s:St) (h:Small s):CallOK Tryz.prog 135 [.f (.agg s.lent)] (fun r o=>r=[rb (zcp s)]∧o=[]):=by
 refine zac zar mixed (T:=Ty) (n:=69) Tryz.func135 (c:=Tryz.f135.body.getD .skip) rfl Tryz.results135 Tryz.ntmps135 Tryz.call135 ?_
 simp only[Tryz.f135,Option.getD]
 have w1:=zhb s.time
 have w2:=zhb s.num
 have w3:=zhb s.token
 have hsr:=zlB s.sess h.sess
 have hlr:=zlz s.locks h.locks h.line
 have hmr:=zlv s.memos h.memos h.held
 have hns:=h.sess
 have hnl:=h.locks
 cases hA:(!within s.time|| !within s.num|| !within s.token|| !sessB s.sess|| !lockB s.locks|| !memoB s.memos)
 ·have hss:SS s.sess:=(zko.1 (by simp at hA;exact hA.1.1.2)).2.2.1
  have hrb:zcp s=((s.sess.all fun x=>decide (x.num≤s.num))&&(s.locks.all fun k=>decide (k.token≤s.token))&&zga s):=by
   unfold zcp
   simp at hA
   rw[hA.1.1.1.1.1,hA.1.1.1.1.2,hA.1.1.1.2,hA.1.1.2,hA.1.2,hA.2]
   rfl
  have hse:=zoW s h hss
  repeat'(first|refine zq hA ?_|exact zd hA|refine zc (w1) ?_|refine zg (w1) ?_|refine zc (w2) ?_|refine zg (w2) ?_|refine zc (w3) ?_|refine zg (w3) ?_|refine zc (hsr) ?_|refine zg (hsr) ?_|refine zc (hlr) ?_|refine zg (hlr) ?_|refine zc (hmr) ?_|refine zg (hmr) ?_|(refine zaa ?_ ?_<;>intro hb)|(refine And.intro ?_ ?_;exact zI)|(refine And.intro ?_ ?_<;>intro hg)|exact zC|fail)
  refine zao (τ:=Nat) (fun i=>⟨[dd, .one (.ptr ⟨1,0,1⟩ 0),dd,dd,dd,dd,dd,dd,dd,dd,dd,dd,dd,dd,dd,dd,dd,dd,dd,dd,dd,dd,dd,dd,dd,dd,dd,dd,dd,dd,dd,dd,dd,dd,dd,dd,dd,dd,dd,dd,dd,dd,al s.sess.length (zaE s.sess),ai s.sess.length,ai i,dd,dd,dd,dd,dd,dd,dd,dd,dd,dd,dd,dd,dd,dd,dd,dd,dd,dd,dd,dd,dd,dd,dd,dd],[(1,{next:=2,l:=[some {e:=1,var:=true,fz:=false,sz:=0,cells:=[di s.time,di s.num,di s.token, .lent s.sess.length (zaE s.sess), .lent s.locks.length (zaf s.locks), .lent s.memos.length (zav s.memos)]},none,none,none,none,none,none]}),(4,⟨2,[]⟩)]⟩)
   (fun i=>i≤s.sess.length) (fun i=>(s.sess.drop i).all fun x=>decide (x.num≤s.num)) (fun i=>s.sess.length - i) 0
   (Gh.canon [1] [4] [] zK rfl rfl) (Nat.zero_le _) ?_
  intro i hi0 hF K hK
  rw[List.drop_zero]at hF
  refine zw ?_
  refine zaa (fun hlt=> ?_) (fun hge=> ?_)
  ·have hi:i<s.sess.length:=by simpa using hlt
   have hat:=zbM hi
   have hw:=zan hi (by omega)
   rw[List.drop_eq_getElem_cons hi,List.all_cons]at hF
   repeat'(first|refine zq (I hat (I @zai zca)) ?_|exact zd (I hat (I @zai zca))|(refine zaa ?_ ?_<;>intro hb)|(refine And.intro ?_ ?_;exact zI)|(refine And.intro ?_ ?_<;>intro hg)|exact zC|fail)
   ·rw[show decide (s.sess[i].num≤s.num)=false by simp at hb⊢;omega]at hF
    rw[hrb,←hF]
    rfl
   ·exact hK _ (i+1) (Gh.canon [1] [] [] (zk hw) rfl rfl) hi (by rw[List.drop_eq_getElem_cons hi,List.all_cons,show decide (s.sess[i].num≤s.num)=true by simp at hb⊢;omega,Bool.true_and]) (by omega)
  ·have hi:i=s.sess.length:=by
    have:¬(i:Int)<s.sess.length:=by simpa using hge
    omega
   rw[hi,List.drop_length,List.all_nil]at hF
   rw[←hF,Bool.true_and]at hrb
   repeat'(first|refine zq0 ?_|exact zd0|(refine zaa ?_ ?_<;>intro hb)|(refine And.intro ?_ ?_;exact zI)|(refine And.intro ?_ ?_<;>intro hg)|exact zC|fail)
   refine zao (τ:=Nat) (fun i=>⟨[dd, .one (.ptr ⟨1,0,1⟩ 0),dd,dd,dd,dd,dd,dd,dd,dd,dd,dd,dd,dd,dd,dd,dd,dd,dd,dd,dd,dd,dd,dd,dd,dd,dd,dd,dd,dd,dd,dd,dd,dd,dd,dd,dd,dd,dd,dd,dd,dd,dd,dd,dd,dd,dd,dd,dd,dd,dd,dd,dd,dd,dd,al s.locks.length (zaf s.locks),ai s.locks.length,ai i,dd,dd,dd,dd,dd,dd,dd,dd,dd,dd,dd],[(1,{next:=2,l:=[some {e:=1,var:=true,fz:=false,sz:=0,cells:=[di s.time,di s.num,di s.token, .lent s.sess.length (zaE s.sess), .lent s.locks.length (zaf s.locks), .lent s.memos.length (zav s.memos)]},none,none,none,none,none,none]}),(4,⟨2,[]⟩),(6,⟨2,[]⟩)]⟩)
    (fun i=>i≤s.locks.length) (fun i=>(s.locks.drop i).all fun k=>decide (k.token≤s.token)) (fun i=>s.locks.length - i) 0
    (Gh.canon [1] [6] [] zK rfl rfl) (Nat.zero_le _) ?_
   intro i hi0 hF K hK
   rw[List.drop_zero]at hF
   refine zw ?_
   refine zaa (fun hlt=> ?_) (fun hge=> ?_)
   ·have hi:i<s.locks.length:=by simpa using hlt
    have hat:=zaO hi
    have hw:=zan hi (by omega)
    rw[List.drop_eq_getElem_cons hi,List.all_cons]at hF
    repeat'(first|refine zq (I hat (I @zae zca)) ?_|exact zd (I hat (I @zae zca))|(refine zaa ?_ ?_<;>intro hb)|(refine And.intro ?_ ?_;exact zI)|(refine And.intro ?_ ?_<;>intro hg)|exact zC|fail)
    ·rw[show decide (s.locks[i].token≤s.token)=false by simp at hb⊢;omega]at hF
     rw[hrb,←hF]
     rfl
    ·exact hK _ (i+1) (Gh.canon [1] [] [] (zk hw) rfl rfl) hi (by rw[List.drop_eq_getElem_cons hi,List.all_cons,show decide (s.locks[i].token≤s.token)=true by simp at hb⊢;omega,Bool.true_and]) (by omega)
   ·have hi:i=s.locks.length:=by
     have:¬(i:Int)<s.locks.length:=by simpa using hge
     omega
    rw[hi,List.drop_length,List.all_nil]at hF
    rw[←hF,Bool.true_and]at hrb
    rw[hrb]
    repeat'(first|refine zq0 ?_|exact zd0|refine zc (hse) ?_|refine zg (hse) ?_|(refine zaa ?_ ?_<;>intro hb)|(refine And.intro ?_ ?_;exact zI)|(refine And.intro ?_ ?_<;>intro hg)|exact zC|fail)
 ·have hrb:zcp s=false:=by
   unfold zcp
   simp at hA
   simp
   intros
   simp_all
  rw[hrb]
  repeat'(first|refine zq hA ?_|exact zd hA|refine zc (w1) ?_|refine zg (w1) ?_|refine zc (w2) ?_|refine zg (w2) ?_|refine zc (w3) ?_|refine zg (w3) ?_|refine zc (hsr) ?_|refine zg (hsr) ?_|refine zc (hlr) ?_|refine zg (hlr) ?_|refine zc (hmr) ?_|refine zg (hmr) ?_|(refine zaa ?_ ?_<;>intro hb)|(refine And.intro ?_ ?_;exact zI)|(refine And.intro ?_ ?_<;>intro hg)|exact zC|fail)
abbrev zq7 (s:St):AV:= .agg ((stE s).map C.d)
set_option maxHeartbeats 1000000 in
theorem zoV (s:St) (h:Small s) (hr:RightS s) (c:Int) (hc:isClient c=true):CallOK Tryz.prog 81 [.f (zq7 s), .f (ai c)]
  (fun r o=>r=[zoJ (zbt s c).1,ze9 (zbt s c).2]∧o=[]):=by
 refine CallOK.nil ?_
 refine zac zar mixed (T:=Ty) (n:=57) Tryz.func81 (c:=Tryz.f81.body.getD .skip) rfl Tryz.results81 Tryz.ntmps81 Tryz.call81 ?_
 simp only[Tryz.f81,Option.getD]
 have hfi:=zjU s.sess hr.ss (by have:=h.sess;omega) c
 have hhe:=zjR s.locks h.locks c
 have hn:=hr.num
 have hH:zaL=2^61:=by decide
 have hw:IntKind.i64.wrap (s.num+1)=s.num+1:=wrap64 (by omega) (by omega)
 cases hf:zaF s.sess c with
 |some x=>
  rw[hf]at hfi
  simp only[Option.isSome_some,Option.getD_some]at hfi
  have ho:zbt s c=(s,⟨7,x.num,0,zbd s.locks c⟩):=by unfold zbt;rw[hf]
  rw[ho]
  repeat'(first|refine zq0 ?_|exact zd0|refine zc (hfi) ?_|refine zg (hfi) ?_|refine zc (hhe) ?_|refine zg (hhe) ?_|(refine zaa ?_ ?_<;>intro hb)|(refine And.intro ?_ ?_;exact zI)|(refine And.intro ?_ ?_<;>intro hg)|exact zC|fail)
  simp[zbj,zdo,zbr,za4]
 |none=>
  rw[hf]at hfi
  simp only[Option.isSome_none,Option.getD_none]at hfi
  have hop:=zt4 s.sess hr.ss h.sess c (s.num+1) s.time hc (by omega) hr.time hf (zdZ hr)
  have ho:zbt s c=if((zb7 s.sess c (s.num+1) s.time).2 !=0)=true then(s,⟨(zb7 s.sess c (s.num+1) s.time).2,0,0,[]⟩)else
    ({s with sess:=(zb7 s.sess c (s.num+1) s.time).1,num:=s.num+1},⟨0,s.num+1,0,zbd s.locks c⟩):=by unfold zbt;rw[hf];simp only[bne_iff_ne]
  cases he:(zb7 s.sess c (s.num+1) s.time).2 !=0
  ·rw[he,if_neg (by simp)]at ho
   rw[ho]
   repeat'(first|(with_reducible first|refine za3 9 ?_|refine zaP 9 ?_|refine zaQ 9 ?_)|refine zu (I hw he) ?_|exact zd (I hw he)|(with_reducible first|refine zab _ _ ?_)|refine zc (hfi) ?_|refine zg (hfi) ?_|refine zc (hhe) ?_|refine zg (hhe) ?_|refine zc (hop) ?_|refine zg (hop) ?_|(refine zaa ?_ ?_<;>intro hb)|(refine And.intro ?_ ?_;exact zI)|(refine And.intro ?_ ?_<;>intro hg)|exact zC|fail)
   refine za9 (za2 (Gh.sealF 2 3 (.own ⟨2,4,7⟩ 0 (zb7 s.sess c (s.num+1) s.time).1.length) ?_) ?_)
   ·exact zo0
   refine zf0 ?_
   repeat'(first|refine zq hw ?_|exact zd hw|refine zc (hhe) ?_|refine zg (hhe) ?_|(refine zaa ?_ ?_<;>intro hb)|(refine And.intro ?_ ?_;exact zI)|(refine And.intro ?_ ?_<;>intro hg)|exact zC|fail)
   simp[zbj,zdo,zbr,za4]
  ·rw[he,if_pos rfl]at ho
   rw[ho]
   repeat'(first|refine zq (I hw he) ?_|exact zd (I hw he)|refine zc (hfi) ?_|refine zg (hfi) ?_|refine zc (hhe) ?_|refine zg (hhe) ?_|refine zc (hop) ?_|refine zg (hop) ?_|(refine zaa ?_ ?_<;>intro hb)|(refine And.intro ?_ ?_;exact zI)|(refine And.intro ?_ ?_<;>intro hg)|exact zC|fail)
   simp[zbj,zdo,zbr,za4]
theorem zkh (l:List Lk) (name:ByteArray) (c t:Int) (w:Bool):(zaI l name c t w).1.length≤l.length+1:=by
 unfold zaI
 cases zcs l name with
 |none=>
  simp only
  split
  ·simp
  ·exact Nat.le_of_eq (zjg zcq _)
 |some k=>
  simp only
  repeat' split
  all_goals simp
theorem zki (l:List Lk) (name:ByteArray) (c t:Int):(zbb l name c t).1.length≤l.length:=by
 unfold zbb
 cases zcs l name with
 |none=>simp
 |some k=>
  simp only
  split
  ·unfold zcC
   split
   ·simp only;rw[List.length_eraseIdx];split<;>omega
   ·simp
  ·split<;>simp
theorem zkj (l:List Lk) (name:ByteArray) (c t:Int):0≤(zbb l name c t).2.1∧(zbb l name c t).2.1≤1:=by
 unfold zbb
 cases zcs l name with
 |none=>simp
 |some k=>
  simp only
  split
  ·unfold zcC
   split<;>simp
  ·split<;>simp
set_option maxHeartbeats 4000000 in
theorem ztd (s:St) (h:Small s) (hr:RightS s) (r:Req) (hm:Req.may r=true):CallOK Tryz.prog 45 [.f (zq7 s), .f (.agg (r.enc.map C.d))]
  (fun x o=>x=[zoJ (za1 s r).1,ze9 (za1 s r).2]∧o=[]):=by
 refine CallOK.nil ?_
 refine zac zar mixed (T:=Ty) (n:=143) Tryz.func45 (c:=Tryz.f45.body.getD .skip) rfl Tryz.results45 Tryz.ntmps45 Tryz.call45 ?_
 simp only[Tryz.f45,Option.getD]
 obtain⟨hc,_,hnm⟩:=zf7 hm
 have hfi:=zjU s.sess hr.ss (by have:=h.sess;omega) r.client
 have hT:=hr.token
 have hH:zaL=2^61:=by decide
 have hll:∀k∈s.locks,k.line.length<2^30:=fun k hk=>(h.line k hk).1
 cases h1:r.kind==1
 ·cases hf:zaF s.sess r.client with
  |none=>
   rw[hf]at hfi
   simp only[Option.isSome_none,Option.getD_none]at hfi
   have hd:za1 s r=(s,⟨9,0,0,[]⟩):=by unfold za1;rw[if_neg (by rw[h1];simp),hf]
   rw[hd]
   repeat'(first|refine zq h1 ?_|exact zd h1|refine zc (hfi) ?_|refine zg (hfi) ?_|(refine zaa ?_ ?_<;>intro hb)|(refine And.intro ?_ ?_;exact zI)|(refine And.intro ?_ ?_<;>intro hg)|exact zC|fail)
   all_goals simp[zbj,zdo,zbr,za4]
  |some x=>
   rw[hf]at hfi
   simp only[Option.isSome_some,Option.getD_some]at hfi
   cases hx:x.num !=r.session
   ·have hrn:=zr5 s.sess hr.ss h.sess r.client s.time hr.time (by rw[hf];rfl)
    have hwt:IntKind.i64.wrap (s.token+1)=s.token+1:=wrap64 (by omega) (by omega)
    have hd0:za1 s r=if(r.kind==3||r.kind==4)=true then
      (if((zaI s.locks r.name r.client s.token (r.kind==3)).2.2==0)=true then(⟨s.time,s.num,s.token+1,(zbi s.sess r.client s.time).1,(zaI s.locks r.name r.client s.token (r.kind==3)).1,s.memos⟩,⟨(zaI s.locks r.name r.client s.token (r.kind==3)).2.2,x.num,0,zbd (zaI s.locks r.name r.client s.token (r.kind==3)).1 r.client⟩)
      else if((zaI s.locks r.name r.client s.token (r.kind==3)).2.2==10)=true then(⟨s.time,s.num,s.token,(zbi s.sess r.client s.time).1,(zaI s.locks r.name r.client s.token (r.kind==3)).1,s.memos⟩,⟨(zaI s.locks r.name r.client s.token (r.kind==3)).2.2,x.num,(zaI s.locks r.name r.client s.token (r.kind==3)).2.1,zbd (zaI s.locks r.name r.client s.token (r.kind==3)).1 r.client⟩)
      else(⟨s.time,s.num,s.token,(zbi s.sess r.client s.time).1,s.locks,s.memos⟩,⟨(zaI s.locks r.name r.client s.token (r.kind==3)).2.2,x.num,0,zbd s.locks r.client⟩))
     else if(r.kind==5)=true then
      (if((zbb s.locks r.name r.client s.token).2.2==0)=true then(⟨s.time,s.num,s.token+(zbb s.locks r.name r.client s.token).2.1,(zbi s.sess r.client s.time).1,(zbb s.locks r.name r.client s.token).1,s.memos⟩,⟨(zbb s.locks r.name r.client s.token).2.2,x.num,0,zbd (zbb s.locks r.name r.client s.token).1 r.client⟩)
      else(⟨s.time,s.num,s.token,(zbi s.sess r.client s.time).1,s.locks,s.memos⟩,⟨(zbb s.locks r.name r.client s.token).2.2,x.num,0,zbd s.locks r.client⟩))
     else if(r.kind==6)=true then(za7 ⟨s.time,s.num,s.token,(zbi s.sess r.client s.time).1,s.locks,s.memos⟩ [r.client],⟨0,0,0,[]⟩)
     else(⟨s.time,s.num,s.token,(zbi s.sess r.client s.time).1,s.locks,s.memos⟩,⟨0,x.num,0,zbd s.locks r.client⟩):=by
     unfold za1
     rw[if_neg (by rw[h1];simp),hf]
     simp only
     rw[if_neg (by rw[hx];simp)]
     split
     ·by_cases e0:(zaI s.locks r.name r.client s.token (r.kind==3)).2.2=0
      ·rw[if_pos e0,if_neg (by rw[e0];decide),if_pos (by simpa using e0)]
      ·by_cases e10:(zaI s.locks r.name r.client s.token (r.kind==3)).2.2=10
       ·rw[if_neg e0,if_pos e10,if_pos e10,if_neg (by simpa using e0),if_pos (by simpa using e10)]
       ·rw[if_neg e0,if_neg e10,if_neg e10,if_neg (by simpa using e0),if_neg (by simpa using e10)]
     ·split
      ·by_cases e0:(zbb s.locks r.name r.client s.token).2.2=0
       ·rw[if_pos e0,if_pos (by simpa using e0)]
       ·rw[if_neg e0,if_neg (by simpa using e0)]
      ·rfl
    have htl:=zkh s.locks r.name r.client s.token (r.kind==3)
    have hfl:=zki s.locks r.name r.client s.token
    have hnl:=hr.ll
    have hta:=zt1 s.locks hr.ls h.locks hll r.name r.client s.token (by omega) (r.kind==3)
    have hfr:=zt2 s.locks hr.ls h.locks hll r.name r.client s.token (by omega)
    have hhs:=zjR s.locks h.locks r.client
    have hht:=zjR (zaI s.locks r.name r.client s.token (r.kind==3)).1 (by omega) r.client
    have hhf:=zjR (zbb s.locks r.name r.client s.token).1 (by omega) r.client
    have hrl:(zaE (zbi s.sess r.client s.time).1).length=(zbi s.sess r.client s.time).1.length*3:=zai
    cases h3:r.kind==3
    ·rw[h3]at hta hht
     rw[h3,Bool.false_or]at hd0
     cases h4:r.kind==4
     ·rw[h4,if_neg (by simp)]at hd0
      cases h5:r.kind==5
      ·rw[h5,if_neg (by simp)]at hd0
       cases h6:r.kind==6
       ·rw[h6,if_neg (by simp)]at hd0
        rw[hd0]
        repeat'(first|refine zq (I h1 (I hx (I h3 (I h4 (I h5 h6))))) ?_|exact zd (I h1 (I hx (I h3 (I h4 (I h5 h6)))))|refine zc (hfi) ?_|refine zg (hfi) ?_|refine zc (hrn) ?_|refine zg (hrn) ?_|refine zc (hhs) ?_|refine zg (hhs) ?_|(refine zaa ?_ ?_<;>intro hb)|(refine And.intro ?_ ?_;exact zI)|(refine And.intro ?_ ?_<;>intro hg)|exact zC|fail)
        exact⟨rfl,⟨.inl rfl, .inl rfl, .inl rfl, .inr ⟨rfl,rfl,hrl⟩, .inl rfl, .inl rfl,trivial⟩,⟨.inl rfl, .inl rfl, .inl rfl, .inl rfl,trivial⟩,trivial⟩
       ·rw[h6,if_pos rfl]at hd0
        rw[hd0]
        have hwo:=zio ⟨s.time,s.num,s.token,(zbi s.sess r.client s.time).1,s.locks,s.memos⟩ ⟨by rw[zdE hr hf];simp only[List.length_set];exact h.sess,h.locks,h.memos,h.line,h.held⟩ hr.token [r.client] (by simp)
        repeat'(first|refine zq (I h1 (I hx (I h3 (I h4 (I h5 h6))))) ?_|exact zd (I h1 (I hx (I h3 (I h4 (I h5 h6)))))|refine zc (hfi) ?_|refine zg (hfi) ?_|refine zc (hrn) ?_|refine zg (hrn) ?_|(refine zaa ?_ ?_<;>intro hb)|(refine And.intro ?_ ?_;exact zI)|(refine And.intro ?_ ?_<;>intro hg)|exact zC|fail)
        refine zbT (mv:= ?mv1) (lent:= ?le1) 0 ?ha1 (hwo) ?hb1 ?hc1
        case ha1=>(try simp only[zaG,zY,List.contains_nil,Nat.reduceSub,Nat.reduceEqDiff,Nat.reduceAdd,Nat.reduceMul,Nat.reduceLeDiff,Nat.reduceLT,Nat.reduceBEq,reduceCtorEq]);exact rfl
        case hb1=>(try simp only[scM,zY,List.contains_nil,Nat.reduceSub,Nat.reduceEqDiff,Nat.reduceAdd,Nat.reduceMul,Nat.reduceLeDiff,Nat.reduceLT,Nat.reduceBEq,reduceCtorEq]);repeat'(first|rfl|trivial|omega|with_reducible refine And.intro ?_ ?_)
        show aops _ _ _ _ _ _ _ _
        repeat'(first|refine zq0 ?_|exact zd0|(refine zaa ?_ ?_<;>intro hb)|(refine And.intro ?_ ?_;exact zI)|(refine And.intro ?_ ?_<;>intro hg)|exact zC|fail)
        exact⟨rfl,⟨.inl rfl, .inl rfl, .inl rfl, .inr ⟨rfl,rfl,zai⟩, .inr ⟨rfl,rfl,zae⟩, .inl rfl,trivial⟩,⟨.inl rfl, .inl rfl, .inl rfl, .inr ⟨rfl,rfl⟩,trivial⟩,trivial⟩
      ·rw[h5,if_pos rfl]at hd0
       generalize hT0:zbb s.locks r.name r.client s.token=T at*
       cases e0:T.2.2==0
       ·rw[e0,if_neg (by simp)]at hd0
        rw[hd0]
        repeat'(first|refine zq (I h1 (I hx (I h3 (I h4 (I h5 e0))))) ?_|exact zd (I h1 (I hx (I h3 (I h4 (I h5 e0)))))|refine zc (hfi) ?_|refine zg (hfi) ?_|refine zc (hrn) ?_|refine zg (hrn) ?_|refine zc (hfr) ?_|refine zg (hfr) ?_|refine zc (hhs) ?_|refine zg (hhs) ?_|(refine zaa ?_ ?_<;>intro hb)|(refine And.intro ?_ ?_;exact zI)|(refine And.intro ?_ ?_<;>intro hg)|exact zC|fail)
        exact⟨rfl,⟨.inl rfl, .inl rfl, .inl rfl, .inr ⟨rfl,rfl,hrl⟩, .inl rfl, .inl rfl,trivial⟩,⟨.inl rfl, .inl rfl, .inl rfl, .inl rfl,trivial⟩,trivial⟩
       ·rw[e0,if_pos rfl]at hd0
        have hwf:IntKind.i64.wrap (s.token+T.2.1)=s.token+T.2.1:=by
         have:=zkj s.locks r.name r.client s.token
         rw[hT0]at this
         exact wrap64 (by omega) (by omega)
        rw[hd0]
        repeat'(first|refine zq (I h1 (I hx (I h3 (I h4 (I h5 (I e0 hwf)))))) ?_|exact zd (I h1 (I hx (I h3 (I h4 (I h5 (I e0 hwf))))))|refine zc (hfi) ?_|refine zg (hfi) ?_|refine zc (hrn) ?_|refine zg (hrn) ?_|refine zc (hfr) ?_|refine zg (hfr) ?_|refine zc (hhf) ?_|refine zg (hhf) ?_|(refine zaa ?_ ?_<;>intro hb)|(refine And.intro ?_ ?_;exact zI)|(refine And.intro ?_ ?_<;>intro hg)|exact zC|fail)
        exact⟨rfl,⟨.inl rfl, .inl rfl, .inl rfl, .inr ⟨rfl,rfl,hrl⟩, .inr ⟨rfl,rfl,zae⟩, .inl rfl,trivial⟩,⟨.inl rfl, .inl rfl, .inl rfl, .inl rfl,trivial⟩,trivial⟩
     ·rw[h4,if_pos rfl]at hd0
      generalize hT0:zaI s.locks r.name r.client s.token false=T at*
      cases e0:T.2.2==0
      ·cases e10:T.2.2==10
       ·rw[e0,if_neg (by simp),e10,if_neg (by simp)]at hd0
        rw[hd0]
        repeat'(first|refine zq (I h1 (I hx (I h3 (I h4 (I e0 (I e10 hwt)))))) ?_|exact zd (I h1 (I hx (I h3 (I h4 (I e0 (I e10 hwt))))))|refine zc (hfi) ?_|refine zg (hfi) ?_|refine zc (hrn) ?_|refine zg (hrn) ?_|refine zc (hta) ?_|refine zg (hta) ?_|refine zc (hhs) ?_|refine zg (hhs) ?_|(refine zaa ?_ ?_<;>intro hb)|(refine And.intro ?_ ?_;exact zI)|(refine And.intro ?_ ?_<;>intro hg)|exact zC|fail)
        exact⟨rfl,⟨.inl rfl, .inl rfl, .inl rfl, .inr ⟨rfl,rfl,hrl⟩, .inl rfl, .inl rfl,trivial⟩,⟨.inl rfl, .inl rfl, .inl rfl, .inl rfl,trivial⟩,trivial⟩
       ·rw[e0,if_neg (by simp),e10,if_pos rfl]at hd0
        rw[hd0]
        repeat'(first|refine zq (I h1 (I hx (I h3 (I h4 (I e0 (I e10 hwt)))))) ?_|exact zd (I h1 (I hx (I h3 (I h4 (I e0 (I e10 hwt))))))|refine zc (hfi) ?_|refine zg (hfi) ?_|refine zc (hrn) ?_|refine zg (hrn) ?_|refine zc (hta) ?_|refine zg (hta) ?_|refine zc (hht) ?_|refine zg (hht) ?_|(refine zaa ?_ ?_<;>intro hb)|(refine And.intro ?_ ?_;exact zI)|(refine And.intro ?_ ?_<;>intro hg)|exact zC|fail)
        exact⟨rfl,⟨.inl rfl, .inl rfl, .inl rfl, .inr ⟨rfl,rfl,hrl⟩, .inr ⟨rfl,rfl,zae⟩, .inl rfl,trivial⟩,⟨.inl rfl, .inl rfl, .inl rfl, .inl rfl,trivial⟩,trivial⟩
      ·rw[e0,if_pos rfl]at hd0
       rw[hd0]
       repeat'(first|refine zq (I h1 (I hx (I h3 (I h4 (I e0 hwt))))) ?_|exact zd (I h1 (I hx (I h3 (I h4 (I e0 hwt)))))|refine zc (hfi) ?_|refine zg (hfi) ?_|refine zc (hrn) ?_|refine zg (hrn) ?_|refine zc (hta) ?_|refine zg (hta) ?_|refine zc (hht) ?_|refine zg (hht) ?_|(refine zaa ?_ ?_<;>intro hb)|(refine And.intro ?_ ?_;exact zI)|(refine And.intro ?_ ?_<;>intro hg)|exact zC|fail)
       exact⟨rfl,⟨.inl rfl, .inl rfl, .inl rfl, .inr ⟨rfl,rfl,hrl⟩, .inr ⟨rfl,rfl,zae⟩, .inl rfl,trivial⟩,⟨.inl rfl, .inl rfl, .inl rfl, .inl rfl,trivial⟩,trivial⟩
    ·rw[h3]at hta hht
     rw[h3,Bool.true_or,if_pos rfl]at hd0
     generalize hT0:zaI s.locks r.name r.client s.token true=T at*
     cases e0:T.2.2==0
     ·cases e10:T.2.2==10
      ·rw[e0,if_neg (by simp),e10,if_neg (by simp)]at hd0
       rw[hd0]
       repeat'(first|refine zq (I h1 (I hx (I h3 (I e0 (I e10 hwt))))) ?_|exact zd (I h1 (I hx (I h3 (I e0 (I e10 hwt)))))|refine zc (hfi) ?_|refine zg (hfi) ?_|refine zc (hrn) ?_|refine zg (hrn) ?_|refine zc (hta) ?_|refine zg (hta) ?_|refine zc (hhs) ?_|refine zg (hhs) ?_|(refine zaa ?_ ?_<;>intro hb)|(refine And.intro ?_ ?_;exact zI)|(refine And.intro ?_ ?_<;>intro hg)|exact zC|fail)
       exact⟨rfl,⟨.inl rfl, .inl rfl, .inl rfl, .inr ⟨rfl,rfl,hrl⟩, .inl rfl, .inl rfl,trivial⟩,⟨.inl rfl, .inl rfl, .inl rfl, .inl rfl,trivial⟩,trivial⟩
      ·rw[e0,if_neg (by simp),e10,if_pos rfl]at hd0
       rw[hd0]
       repeat'(first|refine zq (I h1 (I hx (I h3 (I e0 (I e10 hwt))))) ?_|exact zd (I h1 (I hx (I h3 (I e0 (I e10 hwt)))))|refine zc (hfi) ?_|refine zg (hfi) ?_|refine zc (hrn) ?_|refine zg (hrn) ?_|refine zc (hta) ?_|refine zg (hta) ?_|refine zc (hht) ?_|refine zg (hht) ?_|(refine zaa ?_ ?_<;>intro hb)|(refine And.intro ?_ ?_;exact zI)|(refine And.intro ?_ ?_<;>intro hg)|exact zC|fail)
       exact⟨rfl,⟨.inl rfl, .inl rfl, .inl rfl, .inr ⟨rfl,rfl,hrl⟩, .inr ⟨rfl,rfl,zae⟩, .inl rfl,trivial⟩,⟨.inl rfl, .inl rfl, .inl rfl, .inl rfl,trivial⟩,trivial⟩
     ·rw[e0,if_pos rfl]at hd0
      rw[hd0]
      repeat'(first|refine zq (I h1 (I hx (I h3 (I e0 hwt)))) ?_|exact zd (I h1 (I hx (I h3 (I e0 hwt))))|refine zc (hfi) ?_|refine zg (hfi) ?_|refine zc (hrn) ?_|refine zg (hrn) ?_|refine zc (hta) ?_|refine zg (hta) ?_|refine zc (hht) ?_|refine zg (hht) ?_|(refine zaa ?_ ?_<;>intro hb)|(refine And.intro ?_ ?_;exact zI)|(refine And.intro ?_ ?_<;>intro hg)|exact zC|fail)
      exact⟨rfl,⟨.inl rfl, .inl rfl, .inl rfl, .inr ⟨rfl,rfl,hrl⟩, .inr ⟨rfl,rfl,zae⟩, .inl rfl,trivial⟩,⟨.inl rfl, .inl rfl, .inl rfl, .inl rfl,trivial⟩,trivial⟩
   ·have hd:za1 s r=(s,⟨9,0,0,[]⟩):=by unfold za1;rw[if_neg (by rw[h1];simp),hf];simp only;rw[if_pos hx]
    rw[hd]
    repeat'(first|refine zq (I h1 hx) ?_|exact zd (I h1 hx)|refine zc (hfi) ?_|refine zg (hfi) ?_|(refine zaa ?_ ?_<;>intro hb)|(refine And.intro ?_ ?_;exact zI)|(refine And.intro ?_ ?_<;>intro hg)|exact zC|fail)
    all_goals simp[zbj,zdo,zbr,za4]
 ·have hop:=zoV s h hr r.client hc
  have hd:za1 s r=zbt s r.client:=by unfold za1;rw[if_pos h1]
  rw[hd]
  repeat'(first|refine zq h1 ?_|exact zd h1|refine zc (hfi) ?_|refine zg (hfi) ?_|refine zc (hop) ?_|refine zg (hop) ?_|(refine zaa ?_ ?_<;>intro hb)|(refine And.intro ?_ ?_;exact zI)|(refine And.intro ?_ ?_<;>intro hg)|exact zC|fail)
  all_goals simp[zbj,zdo,zbr,za4]
theorem zoS {s:St} {r:Req} {x:Sess} (h1:(r.kind==1)=false) (hf:zaF s.sess r.client=some x) (hx:(x.num !=r.session)=false):
  za1 s r=if(r.kind==3||r.kind==4)=true then
  (if((zaI s.locks r.name r.client s.token (r.kind==3)).2.2==0)=true then(⟨s.time,s.num,s.token+1,(zbi s.sess r.client s.time).1,(zaI s.locks r.name r.client s.token (r.kind==3)).1,s.memos⟩,⟨(zaI s.locks r.name r.client s.token (r.kind==3)).2.2,x.num,0,zbd (zaI s.locks r.name r.client s.token (r.kind==3)).1 r.client⟩)
  else if((zaI s.locks r.name r.client s.token (r.kind==3)).2.2==10)=true then(⟨s.time,s.num,s.token,(zbi s.sess r.client s.time).1,(zaI s.locks r.name r.client s.token (r.kind==3)).1,s.memos⟩,⟨(zaI s.locks r.name r.client s.token (r.kind==3)).2.2,x.num,(zaI s.locks r.name r.client s.token (r.kind==3)).2.1,zbd (zaI s.locks r.name r.client s.token (r.kind==3)).1 r.client⟩)
  else(⟨s.time,s.num,s.token,(zbi s.sess r.client s.time).1,s.locks,s.memos⟩,⟨(zaI s.locks r.name r.client s.token (r.kind==3)).2.2,x.num,0,zbd s.locks r.client⟩))
 else if(r.kind==5)=true then
  (if((zbb s.locks r.name r.client s.token).2.2==0)=true then(⟨s.time,s.num,s.token+(zbb s.locks r.name r.client s.token).2.1,(zbi s.sess r.client s.time).1,(zbb s.locks r.name r.client s.token).1,s.memos⟩,⟨(zbb s.locks r.name r.client s.token).2.2,x.num,0,zbd (zbb s.locks r.name r.client s.token).1 r.client⟩)
  else(⟨s.time,s.num,s.token,(zbi s.sess r.client s.time).1,s.locks,s.memos⟩,⟨(zbb s.locks r.name r.client s.token).2.2,x.num,0,zbd s.locks r.client⟩))
 else if(r.kind==6)=true then(za7 ⟨s.time,s.num,s.token,(zbi s.sess r.client s.time).1,s.locks,s.memos⟩ [r.client],⟨0,0,0,[]⟩)
 else(⟨s.time,s.num,s.token,(zbi s.sess r.client s.time).1,s.locks,s.memos⟩,⟨0,x.num,0,zbd s.locks r.client⟩):=by
 unfold za1
 rw[if_neg (by rw[h1];simp),hf]
 simp only
 rw[if_neg (by rw[hx];simp)]
 split
 ·by_cases e0:(zaI s.locks r.name r.client s.token (r.kind==3)).2.2=0
  ·rw[if_pos e0,if_neg (by rw[e0];decide),if_pos (by simpa using e0)]
  ·by_cases e10:(zaI s.locks r.name r.client s.token (r.kind==3)).2.2=10
   ·rw[if_neg e0,if_pos e10,if_pos e10,if_neg (by simpa using e0),if_pos (by simpa using e10)]
   ·rw[if_neg e0,if_neg e10,if_neg e10,if_neg (by simpa using e0),if_neg (by simpa using e10)]
 ·split
  ·by_cases e0:(zbb s.locks r.name r.client s.token).2.2=0
   ·rw[if_pos e0,if_pos (by simpa using e0)]
   ·rw[if_neg e0,if_neg (by simpa using e0)]
  ·rfl
theorem zdC {s:St} (h:Small s) (r:Req):(za1 s r).1.memos=s.memos:=by
 unfold za1
 split
 ·unfold zbt
  split
  ·rfl
  ·split<;>rfl
 ·split
  ·rfl
  ·split
   ·rfl
   ·simp only
    repeat' split
    all_goals rfl
theorem zim {b:ByteArray} (h:nameP b=true):b.size≤12:=by
 unfold nameP at h
 simp only[Bool.and_eq_true,decide_eq_true_eq]at h
 omega
theorem zoT {r:Reply} (h:zcS r=true):zcA r:=by
 unfold zcS at h
 simp only[Bool.and_eq_true,Bool.not_eq_true',Bool.or_eq_false_iff,decide_eq_false_iff_not]at h
 obtain⟨⟨_,h1,_⟩,h2⟩:=h
 refine⟨by omega,fun g hg=> ?_⟩
 obtain⟨j,hj,rfl⟩:=List.getElem_of_mem hg
 have:=zcn.1 h2 j hj
 unfold zcD at this
 simp only[Bool.not_eq_true',Bool.or_eq_false_iff,Bool.not_eq_false']at this
 have:=zim this.1.1.1
 omega
theorem zin:∀{l:List Int} {a b:Int},l.Pairwise (·<·)→(∀x∈l,a≤x∧x<b)→(l.length:Int)≤max (b - a) 0
 |[],a,b,_,_=>by simp;omega
 |x::l,a,b,h,hb=>by
  have h':=List.pairwise_cons.1 h
  have hx:=hb x (List.mem_cons_self ..)
  have:=zin (a:=x+1) (b:=b) h'.2 (fun y hy=>⟨by have:=h'.1 y hy;omega,(hb y (List.mem_cons_of_mem _ hy)).2⟩)
  simp only[List.length_cons];omega
theorem zcY {m:Memo} (h:answerB m=true):(0≤m.client∧m.client<8)∧(1≤m.seq∧m.seq≤zaL)∧zcS m.reply=true:=by
 unfold answerB at h
 simp only[Bool.and_eq_true,decide_eq_true_eq]at h
 exact⟨⟨h.1.1.1.1,h.1.1.1.2⟩,⟨h.1.1.2,h.1.2⟩,h.2⟩
theorem zaN {s:St} (h:RightS s):Small s:=by
 refine⟨by have:=h.sl;omega,by have:=h.ll;omega, ?_,fun k hk=> ?_,fun m hm=>zoT (zcY (h.mok m hm)).2.2⟩
 ·have:=zin (a:=0) (b:=8) (zoZ.1 h.ms) (fun x hx=>by
   obtain⟨m,hm,rfl⟩:=List.mem_map.1 hx
   exact(zcY (h.mok m hm)).1)
  rw[List.length_map]at this
  omega
 ·obtain⟨a,_,b,_⟩:=h.lok k hk
  have h1:=(zbJ.1 b).1
  have h2:=zim (zco.1 a).1
  omega
theorem zkf {l:List Lk} (hl:l.length<2^30) (hn:∀k∈l,k.name.size<2^62) (c:Int) (a b d:Int):zcA ⟨a,b,d,zbd l c⟩:=by
 refine⟨?_,fun g hg=> ?_⟩
 ·unfold zbd
  rw[List.length_map]
  exact Nat.lt_of_le_of_lt (List.length_filter_le ..) hl
 ·unfold zbd at hg
  obtain⟨k,hk,rfl⟩:=List.mem_map.1 hg
  exact hn k (List.mem_filter.1 hk).1
theorem zoU (s:St) (r:Req):(za1 s r).2.held=[]∨(za1 s r).2.held=zbd (za1 s r).1.locks r.client:=by
 unfold za1
 split
 ·unfold zbt
  split
  ·exact .inr rfl
  ·split
   ·exact .inl rfl
   ·exact .inr rfl
 ·split
  ·exact .inl rfl
  ·split
   ·exact .inl rfl
   ·simp only
    repeat' split
    all_goals first|exact .inr rfl|exact .inl rfl
theorem zdD {s:St} (h:RightS s) {r:Req} (hm:Req.may r=true) (hN:s.num+1≤zaL) (hT:s.token+4≤zaL):zcA (za1 s r).2:=by
 have hs:=zaN (zf8 h hm hN hT).rt
 rcases zoU s r with e|e
 ·exact⟨by rw[e];simp,fun g hg=>by rw[e]at hg;cases hg⟩
 ·have:=zkf hs.locks (fun k hk=>(hs.line k hk).2) r.client 0 0 0
  unfold zcA at this⊢
  rw[e]
  exact this
theorem zkg {l:List Lk} (hs:SL l) (h:∀k∈l,znT k=true) (c:Int):zbK (zcD (zbd l c)) 0 (zbd l c)=true:=by
 have hp:(zbd l c).Pairwise fun a b=>zdx a.name b.name=true:=by
  unfold zbd
  rw[List.pairwise_map]
  exact List.Pairwise.sublist (List.filter_sublist ..) hs
 rw[zcn]
 intro j hj
 rw[Nat.zero_add]
 have hm:∃k∈l,(zbd l c)[j]=⟨k.name,k.token⟩:=by
  have:=List.getElem_mem hj
  unfold zbd at this
  obtain⟨k,hk,e⟩:=List.mem_map.1 this
  exact⟨k,(List.mem_filter.1 hk).1,e.symm⟩
 obtain⟨k,hk,e⟩:=hm
 have ho:=zco.1 (h k hk)
 unfold zcD
 simp only[Bool.not_eq_true',Bool.or_eq_false_iff,Bool.and_eq_false_iff,Bool.not_eq_false',decide_eq_false_iff_not]
 rw[e]
 refine⟨⟨⟨ho.1,by simp only;omega⟩,by simp only;omega⟩, ?_⟩
 by_cases h0:0<j
 ·right
  have:=zdt hp j hj h0
  unfold zra
  rw[List.getElem?_eq_getElem (by omega)]
  rw[e]at this
  simpa using this
 ·left;omega
theorem znP {s:St} (h:RightS s) {r:Req} (hm:Req.may r=true) (hN:s.num+1≤zaL) (hT:s.token+4≤zaL):
  ((za1 s r).2.held=[]∨(1≤(za1 s r).2.session∧(za1 s r).2.held=zbd (za1 s r).1.locks r.client))∧(0≤(za1 s r).2.session∧(za1 s r).2.session≤zaL)∧(0≤(za1 s r).2.ahead∧(za1 s r).2.ahead≤3):=by
 have hH:zaL=2305843009213693952:=rfl
 obtain⟨hc,_,hnm⟩:=zf7 hm
 have hnum:=h.num
 cases h1:r.kind==1
 ·cases hf:zaF s.sess r.client with
  |none=>
   have hd:za1 s r=(s,⟨9,0,0,[]⟩):=by unfold za1;rw[if_neg (by rw[h1];simp),hf]
   rw[hd]
   exact⟨.inl rfl,by simp only;omega,by simp only;omega⟩
  |some x=>
   have hxn:=(zb6.1 (h.sok x (List.mem_of_find?_eq_some hf)).1).2.1
   cases hx:x.num !=r.session
   ·rw[zoS h1 hf hx]
    have h1':=zhe h hf
    have hf1:(zaF (zbi s.sess r.client s.time).1 r.client).isSome=true:=by rw[zdE h hf,zgO (zhd h hf).1,hf];rfl
    split
    ·rename_i hk
     obtain⟨_,_,_,ta⟩:=zir (w:=r.kind==3) h1' (hnm hk) hc hf1 hT
     simp only at ta
     split
     ·exact⟨.inr ⟨hxn.1,rfl⟩,by simp only;omega,by simp only;omega⟩
     ·split
      ·exact⟨.inr ⟨hxn.1,rfl⟩,by simp only;omega,ta⟩
      ·exact⟨.inr ⟨hxn.1,rfl⟩,by simp only;omega,by simp only;omega⟩
    ·split
     ·split
      ·exact⟨.inr ⟨hxn.1,rfl⟩,by simp only;omega,by simp only;omega⟩
      ·exact⟨.inr ⟨hxn.1,rfl⟩,by simp only;omega,by simp only;omega⟩
     ·split
      ·exact⟨.inl rfl,by simp only;omega,by simp only;omega⟩
      ·exact⟨.inr ⟨hxn.1,rfl⟩,by simp only;omega,by simp only;omega⟩
   ·have hd:za1 s r=(s,⟨9,0,0,[]⟩):=by unfold za1;rw[if_neg (by rw[h1];simp),hf];simp only;rw[if_pos hx]
    rw[hd]
    exact⟨.inl rfl,by simp only;omega,by simp only;omega⟩
 ·have hd:za1 s r=zbt s r.client:=by unfold za1;rw[if_pos h1]
  rw[hd]
  unfold zbt
  cases hf:zaF s.sess r.client with
  |some x=>
   have hxn:=(zb6.1 (h.sok x (List.mem_of_find?_eq_some hf)).1).2.1
   exact⟨.inr ⟨hxn.1,rfl⟩,by simp only;omega,by simp only;omega⟩
  |none=>
   simp only
   split
   ·exact⟨.inl rfl,by simp only;omega,by simp only;omega⟩
   ·exact⟨.inr ⟨by simp only;omega,rfl⟩,by simp only;omega,by simp only;omega⟩
theorem ze8 {s:St} (h:RightS s) {r:Req} (hm:Req.may r=true) (hN:s.num+1≤zaL) (hT:s.token+4≤zaL):answerB ⟨r.client,r.seq,(za1 s r).2⟩=true:=by
 obtain⟨hc,hq,_⟩:=zf7 hm
 have hd:=zf8 h hm hN hT
 obtain⟨h1,h2,h3⟩:=znP h hm hN hT
 have hcl:=zcR.1 hc
 have hcode:=hd.code
 have hrt:=hd.rt
 unfold answerB zcS
 simp only[Bool.and_eq_true,decide_eq_true_eq,Bool.not_eq_true',Bool.or_eq_false_iff,Bool.and_eq_false_iff,decide_eq_false_iff_not]
 refine⟨⟨⟨⟨hcl.1,hcl.2⟩,hq.1⟩,hq.2⟩,⟨by omega, ?_⟩, ?_⟩
 ·rcases h1 with e|⟨e1,e2⟩
  ·rw[e];exact⟨by simp, .inr (by simp)⟩
  ·refine⟨?_, .inl (by simp;omega)⟩
   rw[e2]
   unfold zbd
   rw[List.length_map]
   have:=List.length_filter_le (fun k:Lk=>k.holder==r.client) (za1 s r).1.locks
   have:=hrt.ll
   omega
 ·rcases h1 with e|⟨e1,e2⟩
  ·rw[e];rfl
  ·rw[e2]
   exact zkg hrt.ls (fun k hk=>(hrt.lok k hk).1) _
set_option maxHeartbeats 2000000 in
theorem zmJ (s:St) (h:Small s) (hr:RightS s) (r:Req) (hro:r.ok) (hdr:Req.may r=true→zcA (za1 s r).2):CallOK Tryz.prog 16 [.f (.agg s.lent), .f (.agg (r.enc.map C.d))]
  (fun x o=>x=[zoJ (zaD s r).1,ze9 (zaD s r).2.1,rb (zaD s r).2.2]∧o=[]):=by
 refine CallOK.nil ?_
 refine zac zar mixed (T:=Ty) (n:=59) Tryz.func16 (c:=Tryz.f16.body.getD .skip) rfl Tryz.results16 Tryz.ntmps16 Tryz.call16 ?_
 simp only[Tryz.f16,Option.getD]
 have hcp:=zkk s h
 have hmr:=zhP r hro
 have hfr:=zjQ s.memos hr.ms h.memos r.client r.seq
 have hla:=ztX s.memos hr.ms h.memos (fun m hm=>(h.held m hm).1) r.client
 repeat'(first|(with_reducible first|refine za3 2 ?_|refine zaP 2 ?_|refine zaQ 2 ?_)|refine zu0 ?_|exact zd0|(with_reducible first|refine zab _ _ ?_)|refine zc (hcp) ?_|refine zg (hcp) ?_|(refine zaa ?_ ?_<;>intro hb)|(refine And.intro ?_ ?_;exact zI)|(refine And.intro ?_ ?_<;>intro hg)|exact zC|fail)
 refine za9 (za2 (Gh.sealF 2 3 (.own ⟨2,4,10⟩ 0 s.sess.length) ?_) ?_)
 ·exact zo0
 refine zf0 ?_
 refine za2 (Gh.sealF 2 4 (.own ⟨2,5,11⟩ 0 s.locks.length) ?_) ?_
 ·exact zo0
 refine zf0 ?_
 refine za2 (Gh.sealF 2 5 (.own ⟨2,6,12⟩ 0 s.memos.length) ?_) ?_
 ·exact zo0
 refine zf0 ?_
 cases hm:Req.may r
 ·rw[hm]at hmr
  have ha:zaD s r=(s,⟨1,0,0,[]⟩,false):=by unfold zaD;rw[hm];rfl
  rw[ha]
  repeat'(first|refine zq0 ?_|exact zd0|refine zc (hmr) ?_|refine zg (hmr) ?_|(refine zaa ?_ ?_<;>intro hb)|(refine And.intro ?_ ?_;exact zI)|(refine And.intro ?_ ?_<;>intro hg)|exact zC|fail)
  simp[zbj,zdo,zbr,za4]
 ·rw[hm]at hmr
  have hdo:=ztd s h hr r hm
  have hms:=zdC h r
  have hke:=ztY (za1 s r).1.memos (by rw[hms];exact hr.ms) (by rw[hms];exact h.memos) (by rw[hms];exact fun m hm=>(h.held m hm).1) ⟨r.client,r.seq,(za1 s r).2⟩ (hdr hm)
  cases f1:zaT s.memos r.client r.seq== -1
  ·cases f0:zaT s.memos r.client r.seq==0
   ·have ha:zaD s r=({(za1 s r).1 with memos:=zcF (za1 s r).1.memos ⟨r.client,r.seq,(za1 s r).2⟩},(za1 s r).2,true):=by
     unfold zaD
     rw[if_neg (by rw[hm];simp),if_neg (by simpa using f1),if_neg (by simpa using f0)]
    rw[ha]
    repeat'(first|refine zq (I f1 f0) ?_|exact zd (I f1 f0)|refine zc (hmr) ?_|refine zg (hmr) ?_|refine zc (hfr) ?_|refine zg (hfr) ?_|refine zc (hdo) ?_|refine zg (hdo) ?_|refine zc (hke) ?_|refine zg (hke) ?_|(refine zaa ?_ ?_<;>intro hb)|(refine And.intro ?_ ?_;exact zI)|(refine And.intro ?_ ?_<;>intro hg)|exact zC|fail)
    exact⟨rfl,⟨.inl rfl, .inl rfl, .inl rfl, .inl rfl, .inl rfl, .inr ⟨rfl,rfl,zak⟩,trivial⟩,⟨.inl rfl, .inl rfl, .inl rfl, .inl rfl,trivial⟩, .inl rfl,trivial⟩
   ·have ha:zaD s r=(s,((zaM s.memos r.client).getD zcB).reply,false):=by
     unfold zaD
     rw[if_neg (by rw[hm];simp),if_neg (by simpa using f1),if_pos (by simpa using f0)]
     cases zaM s.memos r.client<;>rfl
    rw[ha]
    repeat'(first|refine zq (I f1 f0) ?_|exact zd (I f1 f0)|refine zc (hmr) ?_|refine zg (hmr) ?_|refine zc (hfr) ?_|refine zg (hfr) ?_|refine zc (hla) ?_|refine zg (hla) ?_|(refine zaa ?_ ?_<;>intro hb)|(refine And.intro ?_ ?_;exact zI)|(refine And.intro ?_ ?_<;>intro hg)|exact zC|fail)
    simp[zbj,zdo,zbr,za4]
  ·have ha:zaD s r=(s,⟨0,0,0,[]⟩,false):=by
    unfold zaD
    rw[if_neg (by rw[hm];simp),if_pos (by simpa using f1)]
   rw[ha]
   repeat'(first|refine zq f1 ?_|exact zd f1|refine zc (hmr) ?_|refine zg (hmr) ?_|refine zc (hfr) ?_|refine zg (hfr) ?_|(refine zaa ?_ ?_<;>intro hb)|(refine And.intro ?_ ?_;exact zI)|(refine And.intro ?_ ?_<;>intro hg)|exact zC|fail)
   simp[zbj,zdo,zbr,za4]
end Go.Proofs.YtngleemijkaeoaaGreat
