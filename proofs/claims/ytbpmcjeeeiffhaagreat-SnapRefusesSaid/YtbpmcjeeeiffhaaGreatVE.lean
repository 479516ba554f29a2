import Derived.Test.YtbpmcjeeeiffhaaGreatU
namespace Go.Proofs.YtbpmcjeeeiffhaaGreat
open Go.Pk
set_option maxRecDepth 100000
set_option linter.unusedSimpArgs false
set_option linter.unusedVariables false
def replyOk (r:Reply):Prop:=r.held.length<2^30∧∀g∈r.held,g.name.size<2^62
theorem zc1 (r:Reply) (hr:replyOk r):CallOK Tryz.prog 128 [.f (.agg r.lent)] (fun x o=>x=[rb (replyB r)]∧o=[]):=by
 refine zae zat mixed (T:=Ty) (n:=87) Tryz.func128 (c:=Tryz.f128.body.getD .skip) rfl Tryz.results128 Tryz.ntmps128 Tryz.call128 ?_
 simp only[Tryz.f128,Option.getD]
 obtain⟨h1,h2⟩:=hr
 cases hA:(decide (r.code<0)||decide (r.code>12)||decide (r.session<0)||decide (r.session>2305843009213693952)||decide (r.ahead<0)||decide (r.ahead>3))
 ·cases hB:(decide ((r.held.length:Int)>4)||(r.session==0)&&decide ((r.held.length:Int)>0))
  ·have hs:replyB r=checkP (grantQ r.held) 0 r.held:=by
    unfold replyB
    rw[show(decide (r.code<0)||decide (r.code>12)||decide (r.session<0)||decide (r.session>High)||decide (r.ahead<0)||decide (r.ahead>3))=false from hA,hB]
    rfl
   rw[hs]
   repeat'(first|refine zq (I hA hB) ?_|exact zd (I hA hB)|refine zaa ?_|refine zab (fun hb=> ?_) (fun hb=> ?_)|(refine And.intro ?_ ?_;exact zI)|refine And.intro (fun hg=> ?_) (fun hg=> ?_)|exact zC|fail)
   refine zaq (τ:=Nat) (fun i=>⟨[dd, .one (.ptr ⟨1,0,1⟩ 0),dd,dd,dd,dd,dd,dd,dd,dd,dd,dd,dd,dd,dd,dd,dd,dd,dd,dd,dd,dd,dd,dd,dd,dd,dd,dd,dd,dd,dd,dd,dd,dd,dd,dd,dd,dd,dd,dd,dd,dd,dd,dd,dd,dd,dd,dd,dd,al r.held.length (grantsE r.held),ai r.held.length,ai i,dd,dd,dd,dd,dd,dd,dd,dd,dd,dd,dd,dd,dd,dd,dd,dd,dd,dd,dd,dd,dd,dd,dd,dd,dd,dd,dd,dd,dd,dd,dd,dd,dd,dd,dd],[(1,{next:=2,l:=[some {e:=1,var:=true,fz:=false,sz:=0,cells:=[di r.code,di r.session,di r.ahead, .lent r.held.length (grantsE r.held)]},none,none,none,none]}),(4,⟨2,[]⟩)]⟩)
    (fun i=>i≤r.held.length) (fun i=>checkP (grantQ r.held) i (r.held.drop i)) (fun i=>r.held.length - i) 0
    (Gh.canon [1] [4] [] zK rfl rfl) (Nat.zero_le _) ?_
   intro i hi0 hF K hK
   rw[List.drop_zero]at hF
   refine zw ?_
   refine zab (fun hlt=> ?_) (fun hge=> ?_)
   ·have hi:i<r.held.length:=by simpa using hlt
    have hat:=zbo hi
    have hw:=zar hi (by omega)
    rw[zaH hi]at hF
    have hnm:=zne r.held[i].name (h2 _ (List.getElem_mem hi))
    cases e0:decide ((i:Int)>0)
    ·have h0:i=0:=by simpa using e0
     have hq:grantQ r.held i r.held[i]= !(!nameP r.held[i].name||decide (r.held[i].token<1)||decide (r.held[i].token>2305843009213693952)):=by
      unfold grantQ
      have:decide (i>0)=false:=by simpa using e0
      rw[this,Bool.false_and,Bool.or_false]
     have hp:(grantsE r.held).drop ((IntKind.i64.wrap ((i:Int) - 1)).toNat*2)=r.held[i].enc++grantsE (r.held.drop (i+1)):=by
      rw[←zbo hi,h0];rfl
     repeat'(first|refine zq (I hat (I hp (I e0 (I @List.cons_append.{0} (I @List.nil_append.{0} @zaz))))) ?_|exact zd (I hat (I hp (I e0 (I @List.cons_append.{0} (I @List.nil_append.{0} @zaz)))))|refine zc (hnm) ?_|refine zg (hnm) ?_|refine zaa ?_|refine zab (fun hb=> ?_) (fun hb=> ?_)|(refine And.intro ?_ ?_;exact zI)|refine And.intro (fun hg=> ?_) (fun hg=> ?_)|exact zC|fail)
     ·rw[hq,hb,if_neg (by simp)]at hF
      rw[←hF]
     ·exact hK _ (i+1) (Gh.canon [1] [] [] (by simp only[hw,zah,zau,zai,zak,zal,zam,List.set_cons_zero,List.set_cons_succ,and_true,true_and,Int.natCast_zero,Int.cast_ofNat_Int,D.v.injEq,Value.int.injEq];try(repeat'(first|rfl|omega|with_reducible apply And.intro))) rfl rfl) hi (by rw[zaH hi,hq,hb];rfl) (by omega)
    ·have h0:0<i:=by simpa using e0
     have hq:grantQ r.held i r.held[i]= !(!nameP r.held[i].name||decide (r.held[i].token<1)||decide (r.held[i].token>2305843009213693952)|| !(bLess (r.held[i - 1]'(by omega)).name r.held[i].name)):=by
      unfold grantQ prevG
      have:decide (i>0)=true:=by simpa using e0
      rw[this,List.getElem?_eq_getElem (by omega)]
      simp only[Bool.true_and,Option.map_some,Option.getD_some]
     have hp:=zbo (show i - 1<r.held.length by omega)
     have hw1:IntKind.i64.wrap ((i:Int) - 1)=((i - 1:Nat):Int):=by rw[wrap64 (by omega) (by omega)];omega
     repeat'(first|refine zq (I hat (I hp (I hw1 (I e0 (I @List.cons_append.{0} (I @List.nil_append.{0} @zaz)))))) ?_|exact zd (I hat (I hp (I hw1 (I e0 (I @List.cons_append.{0} (I @List.nil_append.{0} @zaz))))))|refine zc (hnm) ?_|refine zg (hnm) ?_|refine zaa ?_|refine zab (fun hb=> ?_) (fun hb=> ?_)|(refine And.intro ?_ ?_;exact zI)|refine And.intro (fun hg=> ?_) (fun hg=> ?_)|exact zC|fail)
     ·rw[hq,hb,if_neg (by simp)]at hF
      rw[←hF]
     ·exact hK _ (i+1) (Gh.canon [1] [] [] (by simp only[hw,zah,zau,zai,zak,zal,zam,List.set_cons_zero,List.set_cons_succ,and_true,true_and,Int.natCast_zero,Int.cast_ofNat_Int,D.v.injEq,Value.int.injEq];try(repeat'(first|rfl|omega|with_reducible apply And.intro))) rfl rfl) hi (by rw[zaH hi,hq,hb];rfl) (by omega)
   ·have hi:i=r.held.length:=by
     have:¬(i:Int)<r.held.length:=by simpa using hge
     omega
    rw[zck hi]at hF
    rw[←hF]
    repeat'(first|refine zq0 ?_|exact zd0|refine zaa ?_|refine zab (fun hb=> ?_) (fun hb=> ?_)|(refine And.intro ?_ ?_;exact zI)|refine And.intro (fun hg=> ?_) (fun hg=> ?_)|exact zC|fail)
  ·have hs:replyB r=false:=by
    unfold replyB
    rw[hB,Bool.not_true,Bool.and_false,Bool.false_and]
   rw[hs]
   repeat'(first|refine zq (I hA hB) ?_|exact zd (I hA hB)|refine zaa ?_|refine zab (fun hb=> ?_) (fun hb=> ?_)|(refine And.intro ?_ ?_;exact zI)|refine And.intro (fun hg=> ?_) (fun hg=> ?_)|exact zC|fail)
 ·have hs:replyB r=false:=by
   unfold replyB
   rw[show(decide (r.code<0)||decide (r.code>12)||decide (r.session<0)||decide (r.session>High)||decide (r.ahead<0)||decide (r.ahead>3))=true from hA]
   rfl
  rw[hs]
  repeat'(first|refine zq hA ?_|exact zd hA|refine zaa ?_|refine zab (fun hb=> ?_) (fun hb=> ?_)|(refine And.intro ?_ ?_;exact zI)|refine And.intro (fun hg=> ?_) (fun hg=> ?_)|exact zC|fail)
theorem zds (m:Memo) (hr:replyOk m.reply):CallOK Tryz.prog 76 [.f (.agg m.lent)] (fun x o=>x=[rb (answerB m)]∧o=[]):=by
 refine zae zat mixed (T:=Ty) (n:=26) Tryz.func76 (c:=Tryz.f76.body.getD .skip) rfl Tryz.results76 Tryz.ntmps76 Tryz.call76 ?_
 simp only[Tryz.f76,Option.getD]
 repeat'(first|refine zq0 ?_|exact zd0|refine zc (zc1 m.reply hr) ?_|refine zg (zc1 m.reply hr) ?_|refine zaa ?_|refine zab (fun hb=> ?_) (fun hb=> ?_)|(refine And.intro ?_ ?_;exact zI)|refine And.intro (fun hg=> ?_) (fun hg=> ?_)|exact zC|fail)
 rfl
def noMemo:Memo:=⟨0,0,⟨0,0,0,[]⟩⟩
theorem ziS (l:List Memo) (hl:l.length<2^30) (hll:∀m∈l,replyOk m.reply):CallOK Tryz.prog 74 [.f (al l.length (memosE l))] (fun r o=>r=[rb (memoB l)]∧o=[]):=by
 refine zae zat mixed (T:=Ty) (n:=37) Tryz.func74 (c:=Tryz.f74.body.getD .skip) rfl Tryz.results74 Tryz.ntmps74 Tryz.call74 ?_
 simp only[Tryz.f74,Option.getD]
 repeat'(first|refine zq @zaA ?_|exact zd @zaA|refine zaa ?_|refine zab (fun hb=> ?_) (fun hb=> ?_)|(refine And.intro ?_ ?_;exact zI)|refine And.intro (fun hg=> ?_) (fun hg=> ?_)|exact zC|fail)
 refine zaq (τ:=Nat) (fun i=>⟨[al l.length (memosE l),dd,dd,dd,dd,al l.length (memosE l),ai l.length,ai i,dd,dd,dd,dd,dd,dd,dd,dd,dd,dd,dd,dd,dd,dd,dd,dd,dd,dd,dd,dd,dd,dd,dd,dd,dd,dd,dd,dd,dd],[(4,⟨2,[]⟩)]⟩)
  (fun i=>i≤l.length) (fun i=>checkP (memoQ l) i (l.drop i)) (fun i=>l.length - i) 0
  (Gh.canon [] [4] [] zK rfl rfl) (Nat.zero_le _) ?_
 intro i hi0 hF K hK
 rw[List.drop_zero]at hF
 refine zw ?_
 refine zab (fun hlt=> ?_) (fun hge=> ?_)
 ·have hi:i<l.length:=by simpa using hlt
  have hat:=zb2 hi
  have hw:=zar hi (by omega)
  rw[zaH hi]at hF
  have hma:=zds l[i] (hll _ (List.getElem_mem hi))
  cases e0:decide ((i:Int)>0)
  ·have h0:i=0:=by simpa using e0
   have hq:memoQ l i l[i]= !(!answerB l[i]):=by
    unfold memoQ
    have:decide (i>0)=false:=by simpa using e0
    rw[this,Bool.false_and,Bool.or_false]
   have hp:(memosE l).drop ((IntKind.i64.wrap ((i:Int) - 1)).toNat*6)=l[i].enc++memosE (l.drop (i+1)):=by
    rw[←zb2 hi,h0];rfl
   repeat'(first|refine zq (I hat (I hp (I e0 (I @List.cons_append.{0} (I @List.nil_append.{0} @zaA))))) ?_|exact zd (I hat (I hp (I e0 (I @List.cons_append.{0} (I @List.nil_append.{0} @zaA)))))|refine zc (hma) ?_|refine zg (hma) ?_|refine zaa ?_|refine zab (fun hb=> ?_) (fun hb=> ?_)|(refine And.intro ?_ ?_;exact zI)|refine And.intro (fun hg=> ?_) (fun hg=> ?_)|exact zC|fail)
   ·rw[hq,hb,if_neg (by simp)]at hF
    unfold memoB
    rw[←hF]
   ·exact hK _ (i+1) (Gh.canon [] [] [] (by simp only[hw,zah,zau,zai,zak,zal,zam,List.set_cons_zero,List.set_cons_succ,and_true,true_and,Int.natCast_zero,Int.cast_ofNat_Int,D.v.injEq,Value.int.injEq];try(repeat'(first|rfl|omega|with_reducible apply And.intro))) rfl rfl) hi (by rw[zaH hi,hq,hb];rfl) (by omega)
  ·have h0:0<i:=by simpa using e0
   have hq:memoQ l i l[i]= !(!answerB l[i]||decide ((l[i - 1]'(by omega)).client≥l[i].client)):=by
    unfold memoQ prevM
    have:decide (i>0)=true:=by simpa using e0
    rw[this,List.getElem?_eq_getElem (by omega)]
    simp only[Bool.true_and,Option.map_some,Option.getD_some]
   have hp:=zb2 (show i - 1<l.length by omega)
   have hw1:IntKind.i64.wrap ((i:Int) - 1)=((i - 1:Nat):Int):=by rw[wrap64 (by omega) (by omega)];omega
   repeat'(first|refine zq (I hat (I hp (I hw1 (I e0 (I @List.cons_append.{0} (I @List.nil_append.{0} @zaA)))))) ?_|exact zd (I hat (I hp (I hw1 (I e0 (I @List.cons_append.{0} (I @List.nil_append.{0} @zaA))))))|refine zc (hma) ?_|refine zg (hma) ?_|refine zaa ?_|refine zab (fun hb=> ?_) (fun hb=> ?_)|(refine And.intro ?_ ?_;exact zI)|refine And.intro (fun hg=> ?_) (fun hg=> ?_)|exact zC|fail)
   ·rw[hq,hb,if_neg (by simp)]at hF
    unfold memoB
    rw[←hF]
   ·exact hK _ (i+1) (Gh.canon [] [] [] (by simp only[hw,zah,zau,zai,zak,zal,zam,List.set_cons_zero,List.set_cons_succ,and_true,true_and,Int.natCast_zero,Int.cast_ofNat_Int,D.v.injEq,Value.int.injEq];try(repeat'(first|rfl|omega|with_reducible apply And.intro))) rfl rfl) hi (by rw[zaH hi,hq,hb];rfl) (by omega)
 ·have hi:i=l.length:=by
   have:¬(i:Int)<l.length:=by simpa using hge
   omega
  rw[zck hi]at hF
  unfold memoB
  rw[←hF]
  repeat'(first|refine zq0 ?_|exact zd0|refine zaa ?_|refine zab (fun hb=> ?_) (fun hb=> ?_)|(refine And.intro ?_ ?_;exact zI)|refine And.intro (fun hg=> ?_) (fun hg=> ?_)|exact zC|fail)
end Go.Proofs.YtbpmcjeeeiffhaaGreat
namespace Go.Proofs.YtbpmcjeeeiffhaaGreat
open Go.Pk
set_option maxRecDepth 100000
set_option linter.unusedSimpArgs false
set_option linter.unusedVariables false
abbrev stE (s:St):List D:=[iD s.time,iD s.num,iD s.token, .sl s.sess.length (sessE s.sess), .sl s.locks.length (locksE s.locks), .sl s.memos.length (memosE s.memos)]
abbrev stRF (s:St):RF:= .agg ((stE s).map RO.d)
abbrev replyRF (a:Reply):RF:= .agg [.d (iD a.code), .d (iD a.session), .d (iD a.ahead), .own 2 a.held.length (grantsE a.held) false]
structure Small (s:St):Prop where
 sess:s.sess.length<2^30
 locks:s.locks.length<2^30
 memos:s.memos.length<2^30
 line:∀k∈s.locks,k.line.length<2^30∧k.name.size<2^62
 held:∀m∈s.memos,replyOk m.reply
abbrev keepS (l:List Sess) (gone:List Int):List Sess:=l.filter fun x=> !hasI gone x.client
theorem zm3 {s:St} (h:Small s) (now lease:Int):(dueP s.sess now lease).length<2^30:=by
 unfold dueP
 split
 ·simp
 ·rw[List.length_map]
  exact Nat.lt_of_le_of_lt (List.length_filter_le ..) h.sess
abbrev lostP (b:St) (x:Sess):Bool:= !((findS b.sess x.client).any fun y=>y.num==x.num)
theorem zf1 (n:Int):CallOK Tryz.prog 71 [.f (ai n)] (fun r o=>r=[rb (within n)]∧o=[]):=by
 refine zae zat mixed (T:=Ty) (n:=9) Tryz.func71 (c:=Tryz.f71.body.getD .skip) rfl Tryz.results71 Tryz.ntmps71 Tryz.call71 ?_
 simp only[Tryz.f71,Option.getD]
 repeat'(first|refine zq0 ?_|exact zd0|refine zaa ?_|refine zab (fun hb=> ?_) (fun hb=> ?_)|(refine And.intro ?_ ?_;exact zI)|refine And.intro (fun hg=> ?_) (fun hg=> ?_)|exact zC|fail)
 rfl
theorem zm4 (s:St) (h:Small s) (hs:SS s.sess):CallOK Tryz.prog 75 [.f (.agg s.lent)] (fun r o=>r=[rb (seatedB s)]∧o=[]):=by
 refine zae zat mixed (T:=Ty) (n:=40) Tryz.func75 (c:=Tryz.f75.body.getD .skip) rfl Tryz.results75 Tryz.ntmps75 Tryz.call75 ?_
 simp only[Tryz.f75,Option.getD]
 have hL:=h.locks
 repeat'(first|refine zq0 ?_|exact zd0|refine zaa ?_|refine zab (fun hb=> ?_) (fun hb=> ?_)|(refine And.intro ?_ ?_;exact zI)|refine And.intro (fun hg=> ?_) (fun hg=> ?_)|exact zC|fail)
 refine zaq (τ:=Nat) (fun i=>⟨[dd, .one (.ptr ⟨1,0,1⟩ 0),dd,ab true,dd,dd,dd,dd,dd,dd,dd,al s.locks.length (locksE s.locks),ai s.locks.length,ai i,dd,dd,dd,dd,dd,dd,dd,dd,dd,dd,dd,dd,dd,dd,dd,dd,dd,dd,dd,dd,dd,dd,dd,dd,dd,dd],[(1,{next:=2,l:=[some {e:=1,var:=true,fz:=false,sz:=0,cells:=[di s.time,di s.num,di s.token, .lent s.sess.length (sessE s.sess), .lent s.locks.length (locksE s.locks), .lent s.memos.length (memosE s.memos)]},none,none,none,none,none,none]}),(5,⟨2,[]⟩),(8,⟨2,[]⟩),(19,⟨2,[]⟩),(22,⟨2,[]⟩)]⟩)
  (fun i=>i≤s.locks.length) (fun i=>(s.locks.drop i).all fun k=>(k.holder::k.line).all fun c=>(findS s.sess c).isSome) (fun i=>s.locks.length - i) 0
  (Gh.canon [1] [5,8,19,22] [] zK rfl rfl) (Nat.zero_le _) ?_
 intro i hi0 hF K hK
 rw[List.drop_zero]at hF
 refine zw ?_
 refine zab (fun hlt=> ?_) (fun hge=> ?_)
 ·have hi:i<s.locks.length:=by simpa using hlt
  have hat:=zaN hi
  have hw:=zar hi (by omega)
  have hli:=(h.line _ (List.getElem_mem hi)).1
  rw[List.drop_eq_getElem_cons hi,List.all_cons]at hF
  obtain⟨c,hc⟩:∃c,c=s.locks[i].holder::s.locks[i].line:=⟨_,rfl⟩
  have hcl:c.length=1+s.locks[i].line.length:=by rw[hc,List.length_cons];omega
  rw[←hc]at hF
  repeat'(first|refine zq (I hat (I @List.cons_append.{0} (I @List.nil_append.{0} (I @zaf @zao)))) ?_|exact zd (I hat (I @List.cons_append.{0} (I @List.nil_append.{0} (I @zaf @zao))))|refine zaa ?_|refine zab (fun hb=> ?_) (fun hb=> ?_)|(refine And.intro ?_ ?_;exact zI)|refine And.intro (fun hg=> ?_) (fun hg=> ?_)|exact zC|fail)
  refine zaq (τ:=Nat) (fun j=>⟨[dd, .one (.ptr ⟨1,0,1⟩ 0),dd,ab true,dd,dd,dd,dd,dd,dd,dd,al s.locks.length (locksE s.locks),ai s.locks.length,ai i,dd,dd,dd,dd,dd,dd,dd,dd, .one (.own ⟨19,1,1⟩ 0 c.length),ai c.length,ai j,dd,dd,dd,dd,dd,dd,dd,dd,dd,dd,dd,dd,dd,dd,dd],[(1,{next:=2,l:=[some {e:=1,var:=true,fz:=false,sz:=0,cells:=[di s.time,di s.num,di s.token, .lent s.sess.length (sessE s.sess), .lent s.locks.length (locksE s.locks), .lent s.memos.length (memosE s.memos)]},none,none,none,none,none,none]}),(5,⟨2,[]⟩),(8,⟨2,[]⟩),(19,{next:=2,l:=[none,some {e:=1,var:=false,fz:=false,sz:=1,cells:=(intsE c).map C.d}]}),(22,⟨2,[]⟩)]⟩)
   (fun j=>j≤c.length) (fun j=>(c.drop j).all fun c=>(findS s.sess c).isSome) (fun j=>c.length - j) 0
   (Gh.canon [1,19] [] [] (by simp only[hcl,zah,zau,zai,zak,zal,zam,List.set_cons_zero,List.set_cons_succ,and_true,true_and,Int.natCast_zero,Int.cast_ofNat_Int,D.v.injEq,Value.int.injEq];try(repeat'(first|rfl|omega|with_reducible apply And.intro))) rfl (by rw[hc];rfl)) (Nat.zero_le _) ?_
  intro j hj0 hF2 K2 hK2
  rw[List.drop_zero]at hF2
  refine zw ?_
  refine zab (fun hlt2=> ?_) (fun hge2=> ?_)
  ·have hj:j<c.length:=by simpa using hlt2
   have haj:=zbE hj
   have hwj:=zar hj (by omega)
   have hfi:=zoF s.sess hs (by have:=h.sess;omega) c[j]
   rw[List.drop_eq_getElem_cons hj,List.all_cons]at hF2
   cases hb:(findS s.sess c[j]).isSome
   ·rw[hb]at hfi hF2
    rw[←hF2]at hF
    repeat'(first|refine zq (I haj (I @zmd (I @List.map_cons.{0,0} (I @List.cons_append.{0} (I @List.nil_append.{0} @zao))))) ?_|exact zd (I haj (I @zmd (I @List.map_cons.{0,0} (I @List.cons_append.{0} (I @List.nil_append.{0} @zao)))))|refine zc (hfi) ?_|refine zg (hfi) ?_|refine zaa ?_|refine zab (fun hb=> ?_) (fun hb=> ?_)|(refine And.intro ?_ ?_;exact zI)|refine And.intro (fun hg=> ?_) (fun hg=> ?_)|exact zC|fail)
    unfold seatedB
    rw[←hF]
    rfl
   ·rw[hb]at hfi hF2
    repeat'(first|refine zq (I haj (I @zmd (I @List.map_cons.{0,0} (I @List.cons_append.{0} (I @List.nil_append.{0} @zao))))) ?_|exact zd (I haj (I @zmd (I @List.map_cons.{0,0} (I @List.cons_append.{0} (I @List.nil_append.{0} @zao)))))|refine zc (hfi) ?_|refine zg (hfi) ?_|refine zaa ?_|refine zab (fun hb=> ?_) (fun hb=> ?_)|(refine And.intro ?_ ?_;exact zI)|refine And.intro (fun hg=> ?_) (fun hg=> ?_)|exact zC|fail)
    exact hK2 _ (j+1) (Gh.canon [1,19] [] [] (by simp only[hwj,zah,zau,zai,zak,zal,zam,List.set_cons_zero,List.set_cons_succ,and_true,true_and,Int.natCast_zero,Int.cast_ofNat_Int,D.v.injEq,Value.int.injEq];try(repeat'(first|rfl|omega|with_reducible apply And.intro))) rfl rfl) hj (by rw[List.drop_eq_getElem_cons hj,List.all_cons,hb,Bool.true_and]) (by omega)
  ·have hj:j=c.length:=by
    have:¬(j:Int)<c.length:=by simpa using hge2
    omega
   rw[hj,List.drop_length,List.all_nil]at hF2
   rw[←hF2,Bool.true_and]at hF
   repeat'(first|refine zq0 ?_|exact zd0|refine zaa ?_|refine zab (fun hb=> ?_) (fun hb=> ?_)|(refine And.intro ?_ ?_;exact zI)|refine And.intro (fun hg=> ?_) (fun hg=> ?_)|exact zC|fail)
   exact hK _ (i+1) (Gh.canon [1] [] [] (by simp only[hw,zah,zau,zai,zak,zal,zam,List.set_cons_zero,List.set_cons_succ,and_true,true_and,Int.natCast_zero,Int.cast_ofNat_Int,D.v.injEq,Value.int.injEq];try(repeat'(first|rfl|omega|with_reducible apply And.intro))) rfl rfl) hi (by rw[List.drop_eq_getElem_cons hi,List.all_cons,←hc,←hF2,Bool.true_and]) (by omega)
 ·have hi:i=s.locks.length:=by
   have:¬(i:Int)<s.locks.length:=by simpa using hge
   omega
  rw[hi,List.drop_length,List.all_nil]at hF
  repeat'(first|refine zq0 ?_|exact zd0|refine zaa ?_|refine zab (fun hb=> ?_) (fun hb=> ?_)|(refine And.intro ?_ ?_;exact zI)|refine And.intro (fun hg=> ?_) (fun hg=> ?_)|exact zC|fail)
  unfold seatedB
  rw[←hF]
set_option maxHeartbeats 1000000 in
theorem zhJ (s:St) (h:Small s):CallOK Tryz.prog 32 [.f (.agg s.lent)] (fun r o=>r=[rb (rightB s)]∧o=[]):=by
 refine zae zat mixed (T:=Ty) (n:=69) Tryz.func32 (c:=Tryz.f32.body.getD .skip) rfl Tryz.results32 Tryz.ntmps32 Tryz.call32 ?_
 simp only[Tryz.f32,Option.getD]
 have w1:=zf1 s.time
 have w2:=zf1 s.num
 have w3:=zf1 s.token
 have hsr:=ziV s.sess h.sess
 have hlr:=ziU s.locks h.locks h.line
 have hmr:=ziS s.memos h.memos h.held
 have hns:=h.sess
 have hnl:=h.locks
 cases hA:(!within s.time|| !within s.num|| !within s.token|| !sessB s.sess|| !lockB s.locks|| !memoB s.memos)
 ·have hss:SS s.sess:=(ziO.1 (by simp at hA;exact hA.1.1.2)).2.2.1
  have hrb:rightB s=((s.sess.all fun x=>decide (x.num≤s.num))&&(s.locks.all fun k=>decide (k.token≤s.token))&&seatedB s):=by
   unfold rightB
   simp at hA
   rw[hA.1.1.1.1.1,hA.1.1.1.1.2,hA.1.1.1.2,hA.1.1.2,hA.1.2,hA.2]
   rfl
  have hse:=zm4 s h hss
  repeat'(first|refine zq hA ?_|exact zd hA|refine zc (w1) ?_|refine zg (w1) ?_|refine zc (w2) ?_|refine zg (w2) ?_|refine zc (w3) ?_|refine zg (w3) ?_|refine zc (hsr) ?_|refine zg (hsr) ?_|refine zc (hlr) ?_|refine zg (hlr) ?_|refine zc (hmr) ?_|refine zg (hmr) ?_|refine zaa ?_|refine zab (fun hb=> ?_) (fun hb=> ?_)|(refine And.intro ?_ ?_;exact zI)|refine And.intro (fun hg=> ?_) (fun hg=> ?_)|exact zC|fail)
  refine zaq (τ:=Nat) (fun i=>⟨[dd, .one (.ptr ⟨1,0,1⟩ 0),dd,dd,dd,dd,dd,dd,dd,dd,dd,dd,dd,dd,dd,dd,dd,dd,dd,dd,dd,dd,dd,dd,dd,dd,dd,dd,dd,dd,dd,dd,dd,dd,dd,dd,dd,dd,dd,dd,dd,dd,al s.sess.length (sessE s.sess),ai s.sess.length,ai i,dd,dd,dd,dd,dd,dd,dd,dd,dd,dd,dd,dd,dd,dd,dd,dd,dd,dd,dd,dd,dd,dd,dd,dd],[(1,{next:=2,l:=[some {e:=1,var:=true,fz:=false,sz:=0,cells:=[di s.time,di s.num,di s.token, .lent s.sess.length (sessE s.sess), .lent s.locks.length (locksE s.locks), .lent s.memos.length (memosE s.memos)]},none,none,none,none,none,none]}),(4,⟨2,[]⟩)]⟩)
   (fun i=>i≤s.sess.length) (fun i=>(s.sess.drop i).all fun x=>decide (x.num≤s.num)) (fun i=>s.sess.length - i) 0
   (Gh.canon [1] [4] [] zK rfl rfl) (Nat.zero_le _) ?_
  intro i hi0 hF K hK
  rw[List.drop_zero]at hF
  refine zw ?_
  refine zab (fun hlt=> ?_) (fun hge=> ?_)
  ·have hi:i<s.sess.length:=by simpa using hlt
   have hat:=zbl hi
   have hw:=zar hi (by omega)
   rw[List.drop_eq_getElem_cons hi,List.all_cons]at hF
   repeat'(first|refine zq (I hat (I @List.cons_append.{0} (I @List.nil_append.{0} @zav))) ?_|exact zd (I hat (I @List.cons_append.{0} (I @List.nil_append.{0} @zav)))|refine zaa ?_|refine zab (fun hb=> ?_) (fun hb=> ?_)|(refine And.intro ?_ ?_;exact zI)|refine And.intro (fun hg=> ?_) (fun hg=> ?_)|exact zC|fail)
   ·rw[show decide (s.sess[i].num≤s.num)=false by simp at hb⊢;omega]at hF
    rw[hrb,←hF]
    rfl
   ·exact hK _ (i+1) (Gh.canon [1] [] [] (by simp only[hw,zah,zau,zai,zak,zal,zam,List.set_cons_zero,List.set_cons_succ,and_true,true_and,Int.natCast_zero,Int.cast_ofNat_Int,D.v.injEq,Value.int.injEq];try(repeat'(first|rfl|omega|with_reducible apply And.intro))) rfl rfl) hi (by rw[List.drop_eq_getElem_cons hi,List.all_cons,show decide (s.sess[i].num≤s.num)=true by simp at hb⊢;omega,Bool.true_and]) (by omega)
  ·have hi:i=s.sess.length:=by
    have:¬(i:Int)<s.sess.length:=by simpa using hge
    omega
   rw[hi,List.drop_length,List.all_nil]at hF
   rw[←hF,Bool.true_and]at hrb
   repeat'(first|refine zq0 ?_|exact zd0|refine zaa ?_|refine zab (fun hb=> ?_) (fun hb=> ?_)|(refine And.intro ?_ ?_;exact zI)|refine And.intro (fun hg=> ?_) (fun hg=> ?_)|exact zC|fail)
   refine zaq (τ:=Nat) (fun i=>⟨[dd, .one (.ptr ⟨1,0,1⟩ 0),dd,dd,dd,dd,dd,dd,dd,dd,dd,dd,dd,dd,dd,dd,dd,dd,dd,dd,dd,dd,dd,dd,dd,dd,dd,dd,dd,dd,dd,dd,dd,dd,dd,dd,dd,dd,dd,dd,dd,dd,dd,dd,dd,dd,dd,dd,dd,dd,dd,dd,dd,dd,dd,al s.locks.length (locksE s.locks),ai s.locks.length,ai i,dd,dd,dd,dd,dd,dd,dd,dd,dd,dd,dd],[(1,{next:=2,l:=[some {e:=1,var:=true,fz:=false,sz:=0,cells:=[di s.time,di s.num,di s.token, .lent s.sess.length (sessE s.sess), .lent s.locks.length (locksE s.locks), .lent s.memos.length (memosE s.memos)]},none,none,none,none,none,none]}),(4,⟨2,[]⟩),(6,⟨2,[]⟩)]⟩)
    (fun i=>i≤s.locks.length) (fun i=>(s.locks.drop i).all fun k=>decide (k.token≤s.token)) (fun i=>s.locks.length - i) 0
    (Gh.canon [1] [6] [] zK rfl rfl) (Nat.zero_le _) ?_
   intro i hi0 hF K hK
   rw[List.drop_zero]at hF
   refine zw ?_
   refine zab (fun hlt=> ?_) (fun hge=> ?_)
   ·have hi:i<s.locks.length:=by simpa using hlt
    have hat:=zaN hi
    have hw:=zar hi (by omega)
    rw[List.drop_eq_getElem_cons hi,List.all_cons]at hF
    repeat'(first|refine zq (I hat (I @List.cons_append.{0} (I @List.nil_append.{0} @zaf))) ?_|exact zd (I hat (I @List.cons_append.{0} (I @List.nil_append.{0} @zaf)))|refine zaa ?_|refine zab (fun hb=> ?_) (fun hb=> ?_)|(refine And.intro ?_ ?_;exact zI)|refine And.intro (fun hg=> ?_) (fun hg=> ?_)|exact zC|fail)
    ·rw[show decide (s.locks[i].token≤s.token)=false by simp at hb⊢;omega]at hF
     rw[hrb,←hF]
     rfl
    ·exact hK _ (i+1) (Gh.canon [1] [] [] (by simp only[hw,zah,zau,zai,zak,zal,zam,List.set_cons_zero,List.set_cons_succ,and_true,true_and,Int.natCast_zero,Int.cast_ofNat_Int,D.v.injEq,Value.int.injEq];try(repeat'(first|rfl|omega|with_reducible apply And.intro))) rfl rfl) hi (by rw[List.drop_eq_getElem_cons hi,List.all_cons,show decide (s.locks[i].token≤s.token)=true by simp at hb⊢;omega,Bool.true_and]) (by omega)
   ·have hi:i=s.locks.length:=by
     have:¬(i:Int)<s.locks.length:=by simpa using hge
     omega
    rw[hi,List.drop_length,List.all_nil]at hF
    rw[←hF,Bool.true_and]at hrb
    rw[hrb]
    repeat'(first|refine zq0 ?_|exact zd0|refine zc (hse) ?_|refine zg (hse) ?_|refine zaa ?_|refine zab (fun hb=> ?_) (fun hb=> ?_)|(refine And.intro ?_ ?_;exact zI)|refine And.intro (fun hg=> ?_) (fun hg=> ?_)|exact zC|fail)
 ·have hrb:rightB s=false:=by
   unfold rightB
   simp at hA
   simp
   intros
   simp_all
  rw[hrb]
  repeat'(first|refine zq hA ?_|exact zd hA|refine zc (w1) ?_|refine zg (w1) ?_|refine zc (w2) ?_|refine zg (w2) ?_|refine zc (w3) ?_|refine zg (w3) ?_|refine zc (hsr) ?_|refine zg (hsr) ?_|refine zc (hlr) ?_|refine zg (hlr) ?_|refine zc (hmr) ?_|refine zg (hmr) ?_|refine zaa ?_|refine zab (fun hb=> ?_) (fun hb=> ?_)|(refine And.intro ?_ ?_;exact zI)|refine And.intro (fun hg=> ?_) (fun hg=> ?_)|exact zC|fail)
end Go.Proofs.YtbpmcjeeeiffhaaGreat
namespace Go.Proofs.YtbpmcjeeeiffhaaGreat
open Go.Pk
set_option maxRecDepth 100000
set_option linter.unusedSimpArgs false
set_option linter.unusedVariables false
abbrev stAV (s:St):AV:= .agg ((stE s).map C.d)
theorem zm0 (l:List Lk) (name:ByteArray) (c t:Int) (w:Bool):(takeP l name c t w).1.length≤l.length+1:=by
 unfold takeP
 cases findL l name with
 |none=>
  simp only
  split
  ·simp
  ·exact Nat.le_of_eq (zqn zjA _)
 |some k=>
  simp only
  repeat' split
  all_goals simp
theorem zm1 (l:List Lk) (name:ByteArray) (c t:Int):(freeP l name c t).1.length≤l.length:=by
 unfold freeP
 cases findL l name with
 |none=>simp
 |some k=>
  simp only
  split
  ·unfold passP
   split
   ·simp only;rw[List.length_eraseIdx];split<;>omega
   ·simp
  ·split<;>simp
theorem zm2 (l:List Lk) (name:ByteArray) (c t:Int):0≤(freeP l name c t).2.1∧(freeP l name c t).2.1≤1:=by
 unfold freeP
 cases findL l name with
 |none=>simp
 |some k=>
  simp only
  split
  ·unfold passP
   split<;>simp
  ·split<;>simp
end Go.Proofs.YtbpmcjeeeiffhaaGreat
namespace Go.Proofs.YtbpmcjeeeiffhaaGreat
open Go.Pk
set_option maxRecDepth 100000
set_option linter.unusedSimpArgs false
set_option linter.unusedVariables false
theorem zmX {s:St} {r:Req} {x:Sess} (h1:(r.kind==1)=false) (hf:findS s.sess r.client=some x) (hx:(x.num !=r.session)=false):
  doneP s r=if(r.kind==3||r.kind==4)=true then
  (if((takeP s.locks r.name r.client s.token (r.kind==3)).2.2==0)=true then(⟨s.time,s.num,s.token+1,(renewP s.sess r.client s.time).1,(takeP s.locks r.name r.client s.token (r.kind==3)).1,s.memos⟩,⟨(takeP s.locks r.name r.client s.token (r.kind==3)).2.2,x.num,0,heldP (takeP s.locks r.name r.client s.token (r.kind==3)).1 r.client⟩)
  else if((takeP s.locks r.name r.client s.token (r.kind==3)).2.2==10)=true then(⟨s.time,s.num,s.token,(renewP s.sess r.client s.time).1,(takeP s.locks r.name r.client s.token (r.kind==3)).1,s.memos⟩,⟨(takeP s.locks r.name r.client s.token (r.kind==3)).2.2,x.num,(takeP s.locks r.name r.client s.token (r.kind==3)).2.1,heldP (takeP s.locks r.name r.client s.token (r.kind==3)).1 r.client⟩)
  else(⟨s.time,s.num,s.token,(renewP s.sess r.client s.time).1,s.locks,s.memos⟩,⟨(takeP s.locks r.name r.client s.token (r.kind==3)).2.2,x.num,0,heldP s.locks r.client⟩))
 else if(r.kind==5)=true then
  (if((freeP s.locks r.name r.client s.token).2.2==0)=true then(⟨s.time,s.num,s.token+(freeP s.locks r.name r.client s.token).2.1,(renewP s.sess r.client s.time).1,(freeP s.locks r.name r.client s.token).1,s.memos⟩,⟨(freeP s.locks r.name r.client s.token).2.2,x.num,0,heldP (freeP s.locks r.name r.client s.token).1 r.client⟩)
  else(⟨s.time,s.num,s.token,(renewP s.sess r.client s.time).1,s.locks,s.memos⟩,⟨(freeP s.locks r.name r.client s.token).2.2,x.num,0,heldP s.locks r.client⟩))
 else if(r.kind==6)=true then(withoutSt ⟨s.time,s.num,s.token,(renewP s.sess r.client s.time).1,s.locks,s.memos⟩ [r.client],⟨0,0,0,[]⟩)
 else(⟨s.time,s.num,s.token,(renewP s.sess r.client s.time).1,s.locks,s.memos⟩,⟨0,x.num,0,heldP s.locks r.client⟩):=by
 unfold doneP
 rw[if_neg (by rw[h1];simp),hf]
 simp only
 rw[if_neg (by rw[hx];simp)]
 split
 ·by_cases e0:(takeP s.locks r.name r.client s.token (r.kind==3)).2.2=0
  ·rw[if_pos e0,if_neg (by rw[e0];decide),if_pos (by simpa using e0)]
  ·by_cases e10:(takeP s.locks r.name r.client s.token (r.kind==3)).2.2=10
   ·rw[if_neg e0,if_pos e10,if_pos e10,if_neg (by simpa using e0),if_pos (by simpa using e10)]
   ·rw[if_neg e0,if_neg e10,if_neg e10,if_neg (by simpa using e0),if_neg (by simpa using e10)]
 ·split
  ·by_cases e0:(freeP s.locks r.name r.client s.token).2.2=0
   ·rw[if_pos e0,if_pos (by simpa using e0)]
   ·rw[if_neg e0,if_neg (by simpa using e0)]
  ·rfl
theorem zlc {s:St} (h:Small s) (r:Req):(doneP s r).1.memos=s.memos:=by
 unfold doneP
 split
 ·unfold openedP
  split
  ·rfl
  ·split<;>rfl
 ·split
  ·rfl
  ·split
   ·rfl
   ·simp only
    repeat' split
    all_goals rfl
theorem zeX {b:ByteArray} (h:nameP b=true):b.size≤12:=by
 unfold nameP at h
 simp only[Bool.and_eq_true,decide_eq_true_eq]at h
 omega
theorem zmY {r:Reply} (h:replyB r=true):replyOk r:=by
 unfold replyB at h
 simp only[Bool.and_eq_true,Bool.not_eq_true',Bool.or_eq_false_iff,decide_eq_false_iff_not]at h
 obtain⟨⟨_,h1,_⟩,h2⟩:=h
 refine⟨by omega,fun g hg=> ?_⟩
 obtain⟨j,hj,rfl⟩:=List.getElem_of_mem hg
 have:=zbK.1 h2 j hj
 unfold grantQ at this
 simp only[Bool.not_eq_true',Bool.or_eq_false_iff,Bool.not_eq_false']at this
 have:=zeX this.1.1.1
 omega
theorem zeY:∀{l:List Int} {a b:Int},l.Pairwise (·<·)→(∀x∈l,a≤x∧x<b)→(l.length:Int)≤max (b - a) 0
 |[],a,b,_,_=>by simp;omega
 |x::l,a,b,h,hb=>by
  have h':=List.pairwise_cons.1 h
  have hx:=hb x (List.mem_cons_self ..)
  have:=zeY (a:=x+1) (b:=b) h'.2 (fun y hy=>⟨by have:=h'.1 y hy;omega,(hb y (List.mem_cons_of_mem _ hy)).2⟩)
  simp only[List.length_cons];omega
theorem zbQ {m:Memo} (h:answerB m=true):(0≤m.client∧m.client<8)∧(1≤m.seq∧m.seq≤High)∧replyB m.reply=true:=by
 unfold answerB at h
 simp only[Bool.and_eq_true,decide_eq_true_eq]at h
 exact⟨⟨h.1.1.1.1,h.1.1.1.2⟩,⟨h.1.1.2,h.1.2⟩,h.2⟩
theorem zbI {s:St} (h:RightS s):Small s:=by
 refine⟨by have:=h.sl;omega,by have:=h.ll;omega, ?_,fun k hk=> ?_,fun m hm=>zmY (zbQ (h.mok m hm)).2.2⟩
 ·have:=zeY (a:=0) (b:=8) (zkA.1 h.ms) (fun x hx=>by
   obtain⟨m,hm,rfl⟩:=List.mem_map.1 hx
   exact(zbQ (h.mok m hm)).1)
  rw[List.length_map]at this
  omega
 ·obtain⟨a,_,b,_⟩:=h.lok k hk
  have h1:=(zbb.1 b).1
  have h2:=zeX (zbB.1 a).1
  omega
theorem ziL {l:List Lk} (hl:l.length<2^30) (hn:∀k∈l,k.name.size<2^62) (c:Int) (a b d:Int):replyOk ⟨a,b,d,heldP l c⟩:=by
 refine⟨?_,fun g hg=> ?_⟩
 ·unfold heldP
  rw[List.length_map]
  exact Nat.lt_of_le_of_lt (List.length_filter_le ..) hl
 ·unfold heldP at hg
  obtain⟨k,hk,rfl⟩:=List.mem_map.1 hg
  exact hn k (List.mem_filter.1 hk).1
theorem zmZ (s:St) (r:Req):(doneP s r).2.held=[]∨(doneP s r).2.held=heldP (doneP s r).1.locks r.client:=by
 unfold doneP
 split
 ·unfold openedP
  split
  ·exact .inr rfl
  ·split
   ·exact .inl rfl
   ·exact .inr rfl
 ·split
  ·exact .inl rfl
  ·split
   ·exact .inl rfl
   ·simp only
    repeat' split
    all_goals first|exact .inr rfl|exact .inl rfl
theorem zld {s:St} (h:RightS s) {r:Req} (hm:Req.may r=true) (hN:s.num+1≤High) (hT:s.token+4≤High):replyOk (doneP s r).2:=by
 have hs:=zbI (zeZ h hm hN hT).rt
 rcases zmZ s r with e|e
 ·exact⟨by rw[e];simp,fun g hg=>by rw[e]at hg;cases hg⟩
 ·have:=ziL hs.locks (fun k hk=>(hs.line k hk).2) r.client 0 0 0
  unfold replyOk at this⊢
  rw[e]
  exact this
theorem ziM {l:List Lk} (hs:SL l) (h:∀k∈l,okLk k=true) (c:Int):checkP (grantQ (heldP l c)) 0 (heldP l c)=true:=by
 have hp:(heldP l c).Pairwise fun a b=>bLess a.name b.name=true:=by
  unfold heldP
  rw[List.pairwise_map]
  exact List.Pairwise.sublist (List.filter_sublist ..) hs
 rw[zbK]
 intro j hj
 rw[Nat.zero_add]
 have hm:∃k∈l,(heldP l c)[j]=⟨k.name,k.token⟩:=by
  have:=List.getElem_mem hj
  unfold heldP at this
  obtain⟨k,hk,e⟩:=List.mem_map.1 this
  exact⟨k,(List.mem_filter.1 hk).1,e.symm⟩
 obtain⟨k,hk,e⟩:=hm
 have ho:=zbB.1 (h k hk)
 unfold grantQ
 simp only[Bool.not_eq_true',Bool.or_eq_false_iff,Bool.and_eq_false_iff,Bool.not_eq_false',decide_eq_false_iff_not]
 rw[e]
 refine⟨⟨⟨ho.1,by simp only;omega⟩,by simp only;omega⟩, ?_⟩
 by_cases h0:0<j
 ·right
  have:=zcA hp j hj h0
  unfold prevG
  rw[List.getElem?_eq_getElem (by omega)]
  rw[e]at this
  simpa using this
 ·left;omega
theorem zle {s:St} (h:RightS s) {r:Req} (hm:Req.may r=true) (hN:s.num+1≤High) (hT:s.token+4≤High):
  ((doneP s r).2.held=[]∨(1≤(doneP s r).2.session∧(doneP s r).2.held=heldP (doneP s r).1.locks r.client))∧(0≤(doneP s r).2.session∧(doneP s r).2.session≤High)∧(0≤(doneP s r).2.ahead∧(doneP s r).2.ahead≤3):=by
 have hH:High=2305843009213693952:=rfl
 obtain⟨hc,_,hnm⟩:=zhK hm
 have hnum:=h.num
 cases h1:r.kind==1
 ·cases hf:findS s.sess r.client with
  |none=>
   have hd:doneP s r=(s,⟨9,0,0,[]⟩):=by unfold doneP;rw[if_neg (by rw[h1];simp),hf]
   rw[hd]
   exact⟨.inl rfl,by simp only;omega,by simp only;omega⟩
  |some x=>
   have hxn:=(zbA.1 (h.sok x (List.mem_of_find?_eq_some hf)).1).2.1
   cases hx:x.num !=r.session
   ·rw[zmX h1 hf hx]
    have h1':=zf4 h hf
    have hf1:(findS (renewP s.sess r.client s.time).1 r.client).isSome=true:=by rw[zeB h hf,zfx (zf3 h hf).1,hf];rfl
    split
    ·rename_i hk
     obtain⟨_,_,_,ta⟩:=zgY (w:=r.kind==3) h1' (hnm hk) hc hf1 hT
     simp only at ta
     split
     ·exact⟨.inr ⟨hxn.1,rfl⟩,by simp only;omega,by simp only;omega⟩
     ·split
      ·exact⟨.inr ⟨hxn.1,rfl⟩,by simp only;omega,ta⟩
      ·exact⟨.inr ⟨hxn.1,rfl⟩,by simp only;omega,by simp only;omega⟩
    ·split
     ·split
      ·exact⟨.inr ⟨hxn.1,rfl⟩,by simp only;omega,by simp only;omega⟩
      ·exact⟨.inr ⟨hxn.1,rfl⟩,by simp only;omega,by simp only;omega⟩
     ·split
      ·exact⟨.inl rfl,by simp only;omega,by simp only;omega⟩
      ·exact⟨.inr ⟨hxn.1,rfl⟩,by simp only;omega,by simp only;omega⟩
   ·have hd:doneP s r=(s,⟨9,0,0,[]⟩):=by unfold doneP;rw[if_neg (by rw[h1];simp),hf];simp only;rw[if_pos hx]
    rw[hd]
    exact⟨.inl rfl,by simp only;omega,by simp only;omega⟩
 ·have hd:doneP s r=openedP s r.client:=by unfold doneP;rw[if_pos h1]
  rw[hd]
  unfold openedP
  cases hf:findS s.sess r.client with
  |some x=>
   have hxn:=(zbA.1 (h.sok x (List.mem_of_find?_eq_some hf)).1).2.1
   exact⟨.inr ⟨hxn.1,rfl⟩,by simp only;omega,by simp only;omega⟩
  |none=>
   simp only
   split
   ·exact⟨.inl rfl,by simp only;omega,by simp only;omega⟩
   ·exact⟨.inr ⟨by simp only;omega,rfl⟩,by simp only;omega,by simp only;omega⟩
theorem zjw {s:St} (h:RightS s) {r:Req} (hm:Req.may r=true) (hN:s.num+1≤High) (hT:s.token+4≤High):answerB ⟨r.client,r.seq,(doneP s r).2⟩=true:=by
 obtain⟨hc,hq,_⟩:=zhK hm
 have hd:=zeZ h hm hN hT
 obtain⟨h1,h2,h3⟩:=zle h hm hN hT
 have hcl:=zb6.1 hc
 have hcode:=hd.code
 have hrt:=hd.rt
 unfold answerB replyB
 simp only[Bool.and_eq_true,decide_eq_true_eq,Bool.not_eq_true',Bool.or_eq_false_iff,Bool.and_eq_false_iff,decide_eq_false_iff_not]
 refine⟨⟨⟨⟨hcl.1,hcl.2⟩,hq.1⟩,hq.2⟩,⟨by omega, ?_⟩, ?_⟩
 ·rcases h1 with e|⟨e1,e2⟩
  ·rw[e];exact⟨by simp, .inr (by simp)⟩
  ·refine⟨?_, .inl (by simp;omega)⟩
   rw[e2]
   unfold heldP
   rw[List.length_map]
   have:=List.length_filter_le (fun k:Lk=>k.holder==r.client) (doneP s r).1.locks
   have:=hrt.ll
   omega
 ·rcases h1 with e|⟨e1,e2⟩
  ·rw[e];rfl
  ·rw[e2]
   exact ziM hrt.ls (fun k hk=>(hrt.lok k hk).1) _
end Go.Proofs.YtbpmcjeeeiffhaaGreat
namespace Go.Proofs.YtbpmcjeeeiffhaaGreat
open Go.Pk
set_option maxRecDepth 100000
set_option linter.unusedSimpArgs false
set_option linter.unusedVariables false
theorem zjH {l:List Int} (h:lineB l=true):l.Nodup:=(zbb.1 h).2.2
theorem zoK {l:List Sess}:keepS l []=l:=List.filter_eq_self.2 fun _ _=>rfl
abbrev cutS (l:List Sess) (gone:List Int) (i:Nat):List Sess:=keepS l (gone.take i)
theorem ziY {l:List Sess} {gone:List Int} {i:Nat} (hi:i<gone.length):cutS l gone (i+1)=(cutS l gone i).filter fun x=>x.client !=gone[i]:=by
 unfold cutS keepS
 rw[List.filter_filter]
 congr 1
 funext x
 rw[←List.take_append_getElem hi]
 unfold hasI
 rw[List.any_append]
 simp only[List.any_cons,List.any_nil,Bool.or_false,Bool.not_or,bne]
 rw[Bool.and_comm]
theorem znn {l:List Sess} {gone:List Int} {i:Nat} (hi:i<gone.length) (hf:findS (cutS l gone i) gone[i]=none):cutS l gone (i+1)=cutS l gone i:=by
 rw[ziY hi]
 refine List.filter_eq_self.2 fun x hx=> ?_
 have:=List.find?_eq_none.1 hf x hx
 simpa[bne]using this
set_option maxHeartbeats 2000000 in
theorem ziZ (s:St) (h:Small s) (hs:SL s.locks) (hnd:∀k∈s.locks,k.line.Nodup) (ht:0≤s.token∧s.token≤High) (gone:List Int) (hg:gone.length<2^30):
  CallOK Tryz.prog 96 [.f (stAV s), .f (al gone.length (intsE gone))] (fun r o=>r=[stRF (withoutSt s gone)]∧o=[]):=by
 refine CallOK.nil ?_
 refine zae zat mixed (T:=Ty) (n:=47) Tryz.func96 (c:=Tryz.f96.body.getD .skip) rfl Tryz.results96 Tryz.ntmps96 Tryz.call96 ?_
 simp only[Tryz.f96,Option.getD]
 have hH:High=2^61:=by decide
 have hdp:=zoN s.locks hs h.locks (fun k hk=>⟨(h.line k hk).1,hnd k hk⟩) gone hg s.token (by omega)
 obtain⟨⟨g1,g2⟩,_⟩:=zcT gone s.token (s.locks.map (lockWithout gone)) 0 (Int.le_refl _)
 have g1:0≤(dropP s.locks gone s.token).2:=g1
 have g2:(dropP s.locks gone s.token).2≤0+(s.locks.map (lockWithout gone)).length:=g2
 rw[List.length_map]at g2
 have hw:IntKind.i64.wrap (s.token+(dropP s.locks gone s.token).2)=s.token+(dropP s.locks gone s.token).2:=wrap64 (by omega) (by have:=h.locks;omega)
 obtain⟨LD,hD⟩:∃D,D=(dropP s.locks gone s.token).1:=⟨_,rfl⟩
 obtain⟨g,hg0⟩:∃g,g=(dropP s.locks gone s.token).2:=⟨_,rfl⟩
 have hwi:withoutSt s gone=⟨s.time,s.num,s.token+g,keepS s.sess gone,LD,s.memos⟩:=by rw[hD,hg0];rfl
 rw[hwi]
 rw[←hD,←hg0]at hdp
 rw[←hg0]at hw
 repeat'(first|(with_reducible first|refine zaW 4 ?_|refine zaK 4 ?_|refine zaL 4 ?_)|refine zu hw ?_|exact zd hw|(with_reducible first|refine zad _ _ ?_)|refine zc (hdp) ?_|refine zg (hdp) ?_|refine zaa ?_|refine zab (fun hb=> ?_) (fun hb=> ?_)|(refine And.intro ?_ ?_;exact zI)|refine And.intro (fun hg=> ?_) (fun hg=> ?_)|exact zC|fail)
 refine zaS (zaX (Gh.sealF 2 4 (.own ⟨2,5,7⟩ 0 LD.length) ?_) ?_)
 ·simp only[sealFOK,zY,Nat.reduceSub,Nat.reduceEqDiff,Nat.reduceAdd,Nat.reduceMul,Nat.reduceLeDiff,Nat.reduceLT,Nat.reduceBEq,reduceCtorEq]
 simp only[sealFR,zY,Nat.reduceSub,Nat.reduceEqDiff,Nat.reduceAdd,Nat.reduceMul,Nat.reduceLeDiff,Nat.reduceLT,Nat.reduceBEq,reduceCtorEq]
 refine zaX (Gh.dropRow 2 5 rfl) ?_
 simp only[zY,Nat.reduceSub,Nat.reduceEqDiff,Nat.reduceAdd,Nat.reduceMul,Nat.reduceLeDiff,Nat.reduceLT,Nat.reduceBEq,reduceCtorEq]
 repeat'(first|refine zq0 ?_|exact zd0|refine zaa ?_|refine zab (fun hb=> ?_) (fun hb=> ?_)|(refine And.intro ?_ ?_;exact zI)|refine And.intro (fun hg=> ?_) (fun hg=> ?_)|exact zC|fail)
 rw[show(D.sl s.sess.length (sessE s.sess))=D.sl (cutS s.sess gone 0).length (sessE (cutS s.sess gone 0)) from by rw[show cutS s.sess gone 0=s.sess from zoK]]
 refine zaq (τ:=Nat) (fun i=>⟨[dd,al gone.length (intsE gone), .one (.ptr ⟨2,0,1⟩ 0),dd, .one (.ptr ⟨4,0,1⟩ 0),dd,dd,ai i,dd,dd,dd,dd,dd,dd,dd,dd,dd,dd,dd,dd,dd,dd,dd,dd,dd,dd,dd,dd,dd,dd,dd,dd,dd,dd,dd,dd,dd,dd,dd,dd,dd,dd,dd,dd,dd,dd,dd],[(2,{next:=2,l:=[some {e:=1,var:=true,fz:=false,sz:=0,cells:=[di s.time,di s.num,di (s.token+g), .d (.sl (cutS s.sess gone i).length (sessE (cutS s.sess gone i))), .d (.sl LD.length (locksE LD)), .d (.sl s.memos.length (memosE s.memos))]},none,none,none,none,none,none]}),(4,{next:=2,l:=[some {e:=1,var:=true,fz:=false,sz:=0,cells:=[di 0,di 0,di 0, .d (.v (.slice none 0 0)), .d (.v (.slice none 0 0)), .d (.v (.slice none 0 0))]},none,none,none,none,none,none]}),(16,⟨2,[]⟩),(5,⟨2,[]⟩),(8,⟨2,[]⟩),(39,⟨2,[]⟩)]⟩)
  (fun i=>i≤gone.length) (fun _=>()) (fun i=>gone.length - i) 0
  (Gh.canon [2,4] [8,39] [] zK rfl rfl) (Nat.zero_le _) ?_
 intro i hi0 hF K hK
 refine zw ?_
 refine zab (fun hlt=> ?_) (fun hge=> ?_)
 ·have hi:i<gone.length:=by simpa using hlt
  have hat:=zbE hi
  have hwi:=zar hi (by omega)
  have hcl:(cutS s.sess gone i).length<2^30:=Nat.lt_of_le_of_lt (List.length_filter_le ..) h.sess
  have hrc:=znr (cutS s.sess gone i) hcl gone[i]
  cases hf:findS (cutS s.sess gone i) gone[i]with
  |none=>
   rw[hf]at hrc
   simp only[Option.isSome_none,Bool.false_eq_true,if_false]at hrc
   have hz:((6:Int)==0)=false:=rfl
   repeat'(first|refine zq (I hat (I hz (I @List.cons_append.{0} (I @List.nil_append.{0} @zao)))) ?_|exact zd (I hat (I hz (I @List.cons_append.{0} (I @List.nil_append.{0} @zao))))|refine zc (hrc) ?_|refine zg (hrc) ?_|refine zaa ?_|refine zab (fun hb=> ?_) (fun hb=> ?_)|(refine And.intro ?_ ?_;exact zI)|refine And.intro (fun hg=> ?_) (fun hg=> ?_)|exact zC|fail)
   rw[←znn hi hf]
   exact hK _ (i+1) (Gh.canon [2,4] [] [] (by simp only[hwi,zah,zau,zai,zak,zal,zam,List.set_cons_zero,List.set_cons_succ,and_true,true_and,Int.natCast_zero,Int.cast_ofNat_Int,D.v.injEq,Value.int.injEq];try(repeat'(first|rfl|omega|with_reducible apply And.intro))) rfl rfl) hi rfl (by omega)
  |some x=>
   rw[hf]at hrc
   simp only[Option.isSome_some,if_true]at hrc
   rw[←ziY hi]at hrc
   have hz:((0:Int)==0)=true:=rfl
   repeat'(first|(with_reducible first|refine zaW 6 ?_|refine zaK 6 ?_|refine zaL 6 ?_)|refine zu (I hat (I hz (I @List.cons_append.{0} (I @List.nil_append.{0} @zao)))) ?_|exact zd (I hat (I hz (I @List.cons_append.{0} (I @List.nil_append.{0} @zao))))|(with_reducible first|refine zad _ _ ?_)|refine zc (hrc) ?_|refine zg (hrc) ?_|refine zaa ?_|refine zab (fun hb=> ?_) (fun hb=> ?_)|(refine And.intro ?_ ?_;exact zI)|refine And.intro (fun hg=> ?_) (fun hg=> ?_)|exact zC|fail)
   refine zaS (zaX (Gh.sealF 2 3 (.own ⟨2,4,2⟩ 0 (cutS s.sess gone (i+1)).length) ?_) ?_)
   ·simp only[sealFOK,zY,Nat.reduceSub,Nat.reduceEqDiff,Nat.reduceAdd,Nat.reduceMul,Nat.reduceLeDiff,Nat.reduceLT,Nat.reduceBEq,reduceCtorEq]
   simp only[sealFR,zY,Nat.reduceSub,Nat.reduceEqDiff,Nat.reduceAdd,Nat.reduceMul,Nat.reduceLeDiff,Nat.reduceLT,Nat.reduceBEq,reduceCtorEq]
   refine zaX (Gh.dropRow 2 4 rfl) ?_
   simp only[zY,Nat.reduceSub,Nat.reduceEqDiff,Nat.reduceAdd,Nat.reduceMul,Nat.reduceLeDiff,Nat.reduceLT,Nat.reduceBEq,reduceCtorEq]
   repeat'(first|refine zq0 ?_|exact zd0|refine zaa ?_|refine zab (fun hb=> ?_) (fun hb=> ?_)|(refine And.intro ?_ ?_;exact zI)|refine And.intro (fun hg=> ?_) (fun hg=> ?_)|exact zC|fail)
   exact hK _ (i+1) (Gh.canon [2,4] [] [] (by simp only[hwi,zah,zau,zai,zak,zal,zam,List.set_cons_zero,List.set_cons_succ,and_true,true_and,Int.natCast_zero,Int.cast_ofNat_Int,D.v.injEq,Value.int.injEq];try(repeat'(first|rfl|omega|with_reducible apply And.intro))) rfl rfl) hi rfl (by omega)
 ·have hi:i=gone.length:=by
   have:¬(i:Int)<gone.length:=by simpa using hge
   omega
  subst hi
  have he:cutS s.sess gone gone.length=keepS s.sess gone:=by unfold cutS;rw[List.take_length]
  rw[he]
  repeat'(first|refine zq0 ?_|exact zd0|refine zaa ?_|refine zab (fun hb=> ?_) (fun hb=> ?_)|(refine And.intro ?_ ?_;exact zI)|refine And.intro (fun hg=> ?_) (fun hg=> ?_)|exact zC|fail)
  simp[rfsLe,rfLe,rosLe,roLe]
end Go.Proofs.YtbpmcjeeeiffhaaGreat
namespace Go.Proofs.YtbpmcjeeeiffhaaGreat
open Go.Pk
set_option maxRecDepth 100000
set_option linter.unusedSimpArgs false
set_option linter.unusedVariables false
theorem zd6 {s:St} (hr:RightS s):∀k∈s.locks,k.line.Nodup:=fun k hk=>zjH (hr.lok k hk).2.2.1
set_option maxHeartbeats 2000000 in
theorem zjG (s:St) (h:Small s) (hr:RightS s) (time lease:Int):CallOK Tryz.prog 55 [.f (stAV s), .f (ai time), .f (ai lease)]
  (fun r o=>r=[stRF (advanceP s time lease)]∧o=[]):=by
 refine zae zat mixed (T:=Ty) (n:=26) Tryz.func55 (c:=Tryz.f55.body.getD .skip) rfl Tryz.results55 Tryz.ntmps55 Tryz.call55 ?_
 simp only[Tryz.f55,Option.getD]
 have h':Small {s with time:=timeP s time}:=⟨h.sess,h.locks,h.memos,h.line,h.held⟩
 have htm:0≤timeP s time∧timeP s time≤High:=by
  have:=hr.time
  unfold timeP
  split
  ·rename_i hc
   simp only[Bool.and_eq_true,decide_eq_true_eq]at hc
   omega
  ·exact this
 have hdu:=zqs s.sess h.sess (timeP s time) (max lease 1) (fun x hx=>(zbA.1 (hr.sok x hx).1).2.2) htm
 have hwo:=ziZ {s with time:=timeP s time} h' hr.ls (fun k hk=>zd6 hr k hk) hr.token (dueP s.sess (timeP s time) (max lease 1)) (zm3 h _ _)
 have hav:advanceP s time lease=withoutSt {s with time:=timeP s time} (dueP s.sess (timeP s time) (max lease 1)):=rfl
 rw[hav]
 cases ha:decide (time>s.time)&&decide (time≤2305843009213693952)
 ·have htp:timeP s time=s.time:=by unfold timeP;rw[show(decide (time>s.time)&&decide (time≤High))=false from ha];rfl
  rw[htp]at hdu hwo⊢
  repeat'(first|(with_reducible first|refine zad _ _ ?_|refine zaE ?_|refine zaF ?_)|rw[zaB]|simp only[ha,rowI,zY,Int.reduceEq,Int.reduceBEq,Int.reduceBNe,Nat.reduceSub,Nat.reduceEqDiff,Nat.reduceAdd,Nat.reduceMul,Nat.reduceLeDiff,Nat.reduceLT,Nat.reduceBEq,reduceCtorEq]|((first|((try refine zaY ?_);apply za6)|(apply zba;intro _));(solve|exact(hdu)|exact(hwo)|(refine CallOK.le (hdu) ?_;exact zM)|(refine CallOK.le (hwo) ?_;exact zM)|fail);try case hn=>rfl)|refine zaa ?_|refine zab (fun hb=> ?_) (fun hb=> ?_)|(refine And.intro ?_ ?_;exact zI)|refine And.intro (fun hg=> ?_) (fun hg=> ?_)|exact zC|fail)
  rfl
 ·have htp:timeP s time=time:=by unfold timeP;rw[show(decide (time>s.time)&&decide (time≤High))=true from ha];rfl
  rw[htp]at hdu hwo⊢
  repeat'(first|(with_reducible first|refine zad _ _ ?_|refine zaE ?_|refine zaF ?_)|rw[zaB]|simp only[ha,rowI,zY,Int.reduceEq,Int.reduceBEq,Int.reduceBNe,Nat.reduceSub,Nat.reduceEqDiff,Nat.reduceAdd,Nat.reduceMul,Nat.reduceLeDiff,Nat.reduceLT,Nat.reduceBEq,reduceCtorEq]|((first|((try refine zaY ?_);apply za6)|(apply zba;intro _));(solve|exact(hdu)|exact(hwo)|(refine CallOK.le (hdu) ?_;exact zM)|(refine CallOK.le (hwo) ?_;exact zM)|fail);try case hn=>rfl)|refine zaa ?_|refine zab (fun hb=> ?_) (fun hb=> ?_)|(refine And.intro ?_ ?_;exact zI)|refine And.intro (fun hg=> ?_) (fun hg=> ?_)|exact zC|fail)
  rfl
theorem zhX (s:St) (h:Small s) (c code ahead:Int):CallOK Tryz.prog 150 [.f (stAV s), .f (ai c), .f (ai code), .f (ai ahead)]
  (fun r o=>r=[replyRF ⟨code,((findS s.sess c).getD noSess).num,ahead,heldP s.locks c⟩]∧o=[]):=by
 refine zae zat mixed (T:=Ty) (n:=27) Tryz.func150 (c:=Tryz.f150.body.getD .skip) rfl Tryz.results150 Tryz.ntmps150 Tryz.call150 ?_
 simp only[Tryz.f150,Option.getD]
 have hfi:=zc2 s.sess (by have:=h.sess;omega) c
 have hhe:=zoM s.locks h.locks c
 repeat'(first|refine zq0 ?_|exact zd0|refine zc (hfi) ?_|refine zg (hfi) ?_|refine zc (hhe) ?_|refine zg (hhe) ?_|refine zaa ?_|refine zab (fun hb=> ?_) (fun hb=> ?_)|(refine And.intro ?_ ?_;exact zI)|refine And.intro (fun hg=> ?_) (fun hg=> ?_)|exact zC|fail)
 rfl
theorem zg0 {s:St} (hr:RightS s) {c:Int} (hc:isClient c=true) (hf:findS s.sess c=none) (he:((openP s.sess c (s.num+1) s.time).2 !=0)=false):
  (openP s.sess c (s.num+1) s.time).1.length≤s.sess.length+1∧((findS (openP s.sess c (s.num+1) s.time).1 c).getD noSess).num=s.num+1:=by
 by_cases hN:s.num+1≤High
 ·rw[zky hr hc hN hf]at he⊢
  split at he
  ·cases he
  ·rename_i h5
   rw[if_neg h5]
   refine⟨?_, ?_⟩
   ·simp only[List.length_append,List.length_cons,List.length_take,List.length_drop];omega
   ·have h1:(s.sess.take (posS s.sess c)).find? (fun x=>x.client==c)=none:=List.find?_eq_none.2 fun x hx=>List.find?_eq_none.1 hf x (List.mem_of_mem_take hx)
    simp only[findS,List.find?_append,h1,Option.none_or,List.find?_cons,beq_self_eq_true,Option.getD_some]
 ·exfalso
  have:openP s.sess c (s.num+1) s.time=([],1):=by
   unfold openP
   rw[if_pos (by simp only[Bool.or_eq_true,decide_eq_true_eq];omega)]
  rw[this]at he
  cases he
set_option maxHeartbeats 2000000 in
theorem znm (s:St) (h:Small s) (hr:RightS s) (c:Int) (hc:isClient c=true):CallOK Tryz.prog 147 [.f (stAV s), .f (ai c)]
  (fun r o=>r=[stRF (openedP s c).1,replyRF (openedP s c).2]∧o=[]):=by
 refine CallOK.nil ?_
 refine zae zat mixed (T:=Ty) (n:=49) Tryz.func147 (c:=Tryz.f147.body.getD .skip) rfl Tryz.results147 Tryz.ntmps147 Tryz.call147 ?_
 simp only[Tryz.f147,Option.getD]
 have hfi:=zc2 s.sess (by have:=h.sess;omega) c
 have hn:=hr.num
 have hH:High=2^61:=by decide
 have hw:IntKind.i64.wrap (s.num+1)=s.num+1:=wrap64 (by omega) (by omega)
 cases hf:findS s.sess c with
 |some x=>
  have hto:=zhX s h c 7 0
  rw[hf]at hfi hto
  simp only[Option.isSome_some,Option.getD_some]at hfi hto
  have ho:openedP s c=(s,⟨7,x.num,0,heldP s.locks c⟩):=by unfold openedP;rw[hf]
  rw[ho]
  repeat'(first|refine zq0 ?_|exact zd0|refine zc (hfi) ?_|refine zg (hfi) ?_|refine zc (hto) ?_|refine zg (hto) ?_|refine zaa ?_|refine zab (fun hb=> ?_) (fun hb=> ?_)|(refine And.intro ?_ ?_;exact zI)|refine And.intro (fun hg=> ?_) (fun hg=> ?_)|exact zC|fail)
  simp[rfsLe,rfLe,rosLe,roLe]
 |none=>
  rw[hf]at hfi
  simp only[Option.isSome_none,Option.getD_none]at hfi
  have hop:=zoL s.sess hr.ss h.sess c (s.num+1) s.time hc (by omega) hr.time hf (zeA hr)
  have ho:openedP s c=if((openP s.sess c (s.num+1) s.time).2 !=0)=true then(s,⟨(openP s.sess c (s.num+1) s.time).2,0,0,[]⟩)else
    ({s with sess:=(openP s.sess c (s.num+1) s.time).1,num:=s.num+1},⟨0,s.num+1,0,heldP s.locks c⟩):=by unfold openedP;rw[hf];simp only[bne_iff_ne]
  cases he:(openP s.sess c (s.num+1) s.time).2 !=0
  ·rw[he,if_neg (by simp)]at ho
   rw[ho]
   have hsm:Small {s with sess:=(openP s.sess c (s.num+1) s.time).1,num:=s.num+1}:=⟨by have:=(zg0 hr hc hf he).1;have:=hr.sl;simp only;omega,h.locks,h.memos,h.line,h.held⟩
   have hto:=zhX {s with sess:=(openP s.sess c (s.num+1) s.time).1,num:=s.num+1} hsm c 0 0
   have hfo:((findS (openP s.sess c (s.num+1) s.time).1 c).getD noSess).num=s.num+1:=(zg0 hr hc hf he).2
   simp only[hfo]at hto
   repeat'(first|(with_reducible first|refine zaW 8 ?_|refine zaK 8 ?_|refine zaL 8 ?_)|refine zu (I hw he) ?_|exact zd (I hw he)|(with_reducible first|refine zad _ _ ?_)|refine zc (hfi) ?_|refine zg (hfi) ?_|refine zc (hop) ?_|refine zg (hop) ?_|refine zaa ?_|refine zab (fun hb=> ?_) (fun hb=> ?_)|(refine And.intro ?_ ?_;exact zI)|refine And.intro (fun hg=> ?_) (fun hg=> ?_)|exact zC|fail)
   refine zaS (zaX (Gh.sealF 2 3 (.own ⟨2,4,7⟩ 0 (openP s.sess c (s.num+1) s.time).1.length) ?_) ?_)
   ·simp only[sealFOK,zY,Nat.reduceSub,Nat.reduceEqDiff,Nat.reduceAdd,Nat.reduceMul,Nat.reduceLeDiff,Nat.reduceLT,Nat.reduceBEq,reduceCtorEq]
   simp only[sealFR,zY,Nat.reduceSub,Nat.reduceEqDiff,Nat.reduceAdd,Nat.reduceMul,Nat.reduceLeDiff,Nat.reduceLT,Nat.reduceBEq,reduceCtorEq]
   repeat'(first|refine zq hw ?_|exact zd hw|refine zc (hto) ?_|refine zg (hto) ?_|refine zaa ?_|refine zab (fun hb=> ?_) (fun hb=> ?_)|(refine And.intro ?_ ?_;exact zI)|refine And.intro (fun hg=> ?_) (fun hg=> ?_)|exact zC|fail)
   simp[rfsLe,rfLe,rosLe,roLe]
  ·rw[he,if_pos rfl]at ho
   rw[ho]
   repeat'(first|refine zq (I hw he) ?_|exact zd (I hw he)|refine zc (hfi) ?_|refine zg (hfi) ?_|refine zc (hop) ?_|refine zg (hop) ?_|refine zaa ?_|refine zab (fun hb=> ?_) (fun hb=> ?_)|(refine And.intro ?_ ?_;exact zI)|refine And.intro (fun hg=> ?_) (fun hg=> ?_)|exact zC|fail)
   simp[rfsLe,rfLe,rosLe,roLe]
theorem zlp {s:St} (hr:RightS s) {c:Int} {x:Sess} (hf:findS s.sess c=some x):((findS (renewP s.sess c s.time).1 c).getD noSess).num=x.num∧(renewP s.sess c s.time).1.length=s.sess.length:=by
 rw[zeB hr hf]
 refine⟨?_,by simp only[List.length_set]⟩
 simp only
 rw[←zi0 hr.ss hf]
 unfold findS
 rw[List.find?_map,show((fun y:Sess=>y.client==c)∘renewX c s.time)=fun y:Sess=>y.client==c from by funext y;simp only[Function.comp,renewX];split<;>rfl]
 rw[show s.sess.find? (fun y:Sess=>y.client==c)=some x from hf]
 simp only[Option.map_some,Option.getD_some,renewX]
 split<;>rfl
theorem zlq {l:List Lk} {name:ByteArray} {c t:Int} {w:Bool} (hl:∀k∈l,k.line.length<2^30∧k.name.size<2^62) (hs:SL l) (hll:∀k∈l,k.line.length≤3) (hn:name.size<2^62):
  ∀k∈(takeP l name c t w).1,k.line.length<2^30∧k.name.size<2^62:=by
 intro k hk
 unfold takeP at hk
 cases hf:findL l name with
 |none=>
  rw[hf]at hk
  simp only at hk
  split at hk
  ·cases hk
  ·rcases List.mem_append.1 hk with hk|hk
   ·exact hl k (List.mem_of_mem_take hk)
   ·rcases List.mem_cons.1 hk with rfl|hk
    ·exact⟨by simp,hn⟩
    ·exact hl k (List.mem_of_mem_drop hk)
 |some k0=>
  rw[hf]at hk
  simp only at hk
  obtain⟨⟨hi,he⟩,_⟩:=zcc hs hf
  have hk0:=hl k0 (he▸List.getElem_mem hi)
  have hk3:=hll k0 (he▸List.getElem_mem hi)
  split at hk
  ·cases hk
  ·split at hk
   ·cases hk
   ·split at hk
    ·exact hl k hk
    ·split at hk
     ·cases hk
     ·rcases List.mem_or_eq_of_mem_set hk with hk|rfl
      ·exact hl k hk
      ·refine⟨?_,hk0.2⟩
       simp only
       unfold joinP
       repeat' split
       all_goals simp
       all_goals omega
theorem zlr {l:List Lk} {name:ByteArray} {c t:Int} (hl:∀k∈l,k.line.length<2^30∧k.name.size<2^62) (hs:SL l):
  ∀k∈(freeP l name c t).1,k.line.length<2^30∧k.name.size<2^62:=by
 intro k hk
 unfold freeP at hk
 cases hf:findL l name with
 |none=>rw[hf]at hk;cases hk
 |some k0=>
  rw[hf]at hk
  simp only at hk
  obtain⟨⟨hi,he⟩,_⟩:=zcc hs hf
  have hk0:=hl k0 (he▸List.getElem_mem hi)
  split at hk
  ·unfold passP at hk
   split at hk
   ·exact hl k (List.mem_of_mem_eraseIdx hk)
   ·rename_i hline
    rcases List.mem_or_eq_of_mem_set hk with hk|rfl
    ·exact hl k hk
    ·refine⟨?_,hk0.2⟩
     have:=hk0.1
     rw[hline,List.length_cons]at this
     simp only;omega
  ·split at hk
   ·rcases List.mem_or_eq_of_mem_set hk with hk|rfl
    ·exact hl k hk
    ·refine⟨?_,hk0.2⟩
     simp only
     unfold leaveP
     split
     ·exact hk0.1
     ·exact Nat.lt_of_le_of_lt (List.length_eraseIdx_le ..) hk0.1
   ·cases hk
end Go.Proofs.YtbpmcjeeeiffhaaGreat
