import Derived.Test.YtliimajkpggbhaaGreatK9
import Derived.Test.YtliimajkpggbhaaGreatJ
namespace Go.Proofs.YtliimajkpggbhaaGreat
open Go.Pk
set_option maxRecDepth 100000
set_option linter.unusedSimpArgs false
set_option linter.unusedVariables false
theorem zng {x:Sess}:zgi x=true↔isClient x.client=true∧(1≤x.num∧x.num≤zdU)∧0≤x.renewed∧x.renewed≤zdU:=by
 unfold zgi
 simp only[Bool.and_eq_true,Bool.not_eq_true',decide_eq_false_iff_not]
 constructor
 ·rintro⟨⟨⟨⟨a,b⟩,c⟩,d⟩,e⟩;exact⟨a,⟨by omega,by omega⟩,by omega,by omega⟩
 ·rintro⟨a,⟨b,c⟩,d,e⟩;exact⟨⟨⟨⟨a,by omega⟩,by omega⟩,by omega⟩,by omega⟩
structure DoneR (s t:St) (a:Reply):Prop where
 rt:RightS t
 tok:s.token≤t.token∧t.token≤s.token+4
 num:s.num≤t.num∧t.num≤s.num+1
 time:t.time=s.time
 code:0≤a.code∧a.code≤12
def zyQ {α:Type} (p:α→Bool) (x:α):List α→List α
 |[]=>[x]
 |y::r=>if p y=true then x::y::r else y::zyQ p x r
def zuJ (c now:Int) (y:Sess):Sess:=if(y.client==c)=true then⟨y.client,y.num,max y.renewed now⟩else y
def zy8 (l:List Sess) (c now:Int) (i:Nat):List Sess:=(l.take i).map (zuJ c now)++l.drop i
def zcI (r:Reply):Prop:=r.held.length<2^30∧∀g∈r.held,g.name.size<2^62
theorem zfb (r:Reply) (hr:zcI r):CallOK Tryz.prog 74 [.f (.agg r.lent)] (fun x o=>x=[rb (zcf r)]∧o=[]):=by
 refine zh Tryz.func74 Tryz.results74 Tryz.ntmps74 Tryz.call74 ?_
 simp only[Tryz.f74,Option.getD]
 obtain⟨h1,h2⟩:=hr
 cases hA:(decide (r.code<0)||decide (r.code>12)||decide (r.session<0)||decide (r.session>2305843009213693952)||decide (r.ahead<0)||decide (r.ahead>3))
 ·cases hB:(decide ((r.held.length:Int)>4)||(r.session==0)&&decide ((r.held.length:Int)>0))
  ·have hs:zcf r=zbK (ze0 r.held) 0 r.held:=by
    unfold zcf
    rw[show(decide (r.code<0)||decide (r.code>12)||decide (r.session<0)||decide (r.session>zdU)||decide (r.ahead<0)||decide (r.ahead>3))=false from hA,hB]
    rfl
   rw[hs]
   repeat'(first|exact zC|refine zq (I hA hB) ?_|(apply zaa<;>intro hb)|(apply I;exact zI)|(apply I<;>intro hg))
   refine zai (τ:=Nat) (fun i=>⟨(dd::ptq 1::dq7 (zgv (al r.held.length (zaK r.held)::ai r.held.length::ai i::zso []))),[(1,⟨2,[obq 1 [di r.code,di r.session,di r.ahead, .lent r.held.length (zaK r.held)],none,none,none,none]⟩),(4,⟨2,[]⟩)]⟩)
    (fun i=>i≤r.held.length) (fun i=>zbK (ze0 r.held) i (r.held.drop i)) (fun i=>r.held.length - i) 0
    (Gh.canon [1] [4] [] zK rfl rfl) (Nat.zero_le _) ?_
   intro i hi0 hF K hK
   rw[List.drop_zero]at hF
   refine zw ?_
   refine zaa (fun hlt=> ?_) (fun hge=> ?_)
   ·have hi:i<r.held.length:=by simpa using hlt
    have hat:=zcx hi
    have hw:=zan hi (by omega)
    rw[zaL hi]at hF
    have hnm:=zjq r.held[i].name (h2 _ (List.getElem_mem hi))
    cases e0:decide ((i:Int)>0)
    ·have h0:i=0:=by simpa using e0
     have hq:ze0 r.held i r.held[i]= !(!nameP r.held[i].name||decide (r.held[i].token<1)||decide (r.held[i].token>2305843009213693952)):=by
      unfold ze0
      have:decide (i>0)=false:=by simpa using e0
      rw[this,Bool.false_and,Bool.or_false]
     have hp:(zaK r.held).drop ((IntKind.i64.wrap ((i:Int) - 1)).toNat*2)=r.held[i].enc++zaK (r.held.drop (i+1)):=by
      rw[←zcx hi,h0];rfl
     repeat'(first|exact zC|refine zq (I hat (I hp (I e0 (I @zas zca)))) ?_|refine zx (hnm) ?_|(apply zaa<;>intro hb)|(apply I;exact zI)|(apply I<;>intro hg))
     ·rw[hq,hb,if_neg (by simp)]at hF
      rw[←hF]
     ·exact hK _ (i+1) (Gh.canon [1] [] [] (zk hw) rfl rfl) hi (by rw[zaL hi,hq,hb];rfl) (by omega)
    ·have h0:0<i:=by simpa using e0
     have hq:ze0 r.held i r.held[i]= !(!nameP r.held[i].name||decide (r.held[i].token<1)||decide (r.held[i].token>2305843009213693952)|| !(zkD (r.held[i - 1]'(by omega)).name r.held[i].name)):=by
      unfold ze0 zuC
      have:decide (i>0)=true:=by simpa using e0
      rw[this,List.getElem?_eq_getElem (by omega)]
      simp only[Bool.true_and,Option.map_some,Option.getD_some]
     have hp:=zcx (show i - 1<r.held.length by omega)
     have hw1:IntKind.i64.wrap ((i:Int) - 1)=((i - 1:Nat):Int):=by rw[wrap64 (by omega) (by omega)];omega
     repeat'(first|exact zC|refine zq (I hat (I hp (I hw1 (I e0 (I @zas zca))))) ?_|refine zx (hnm) ?_|(apply zaa<;>intro hb)|(apply I;exact zI)|(apply I<;>intro hg))
     ·rw[hq,hb,if_neg (by simp)]at hF
      rw[←hF]
     ·exact hK _ (i+1) (Gh.canon [1] [] [] (zk hw) rfl rfl) hi (by rw[zaL hi,hq,hb];rfl) (by omega)
   ·have hi:i=r.held.length:=by
     have:¬(i:Int)<r.held.length:=by simpa using hge
     omega
    rw[zdD hi]at hF
    rw[←hF]
    repeat'(first|exact zC|refine zq0 ?_|(apply zaa<;>intro hb)|(apply I;exact zI)|(apply I<;>intro hg))
  ·have hs:zcf r=false:=by
    unfold zcf
    rw[hB,Bool.not_true,Bool.and_false,Bool.false_and]
   rw[hs]
   repeat'(first|exact zC|refine zq (I hA hB) ?_|(apply zaa<;>intro hb)|(apply I;exact zI)|(apply I<;>intro hg))
 ·have hs:zcf r=false:=by
   unfold zcf
   rw[show(decide (r.code<0)||decide (r.code>12)||decide (r.session<0)||decide (r.session>zdU)||decide (r.ahead<0)||decide (r.ahead>3))=true from hA]
   rfl
  rw[hs]
  repeat'(first|exact zC|refine zq hA ?_|(apply zaa<;>intro hb)|(apply I;exact zI)|(apply I<;>intro hg))
theorem zdk (m:Memo) (hr:zcI m.reply):CallOK Tryz.prog 35 [.f (.agg m.lent)] (fun x o=>x=[rb (answerB m)]∧o=[]):=by
 refine zh Tryz.func35 Tryz.results35 Tryz.ntmps35 Tryz.call35 ?_
 simp only[Tryz.f35,Option.getD]
 repeat'(first|exact zC|refine zq0 ?_|refine zx (zfb m.reply hr) ?_|(apply zaa<;>intro hb)|(apply I;exact zI)|(apply I<;>intro hg))
 rfl
def zuI:Memo:=⟨0,0,⟨0,0,0,[]⟩⟩
theorem zkH (l:List Memo) (hl:l.length<2^30) (hll:∀m∈l,zcI m.reply):CallOK Tryz.prog 122 [.f (al l.length (zaO l))] (fun r o=>r=[rb (memoB l)]∧o=[]):=by
 refine zh Tryz.func122 Tryz.results122 Tryz.ntmps122 Tryz.call122 ?_
 simp only[Tryz.f122,Option.getD]
 repeat'(first|exact zC|refine zq @zaF ?_|(apply zaa<;>intro hb)|(apply I;exact zI)|(apply I<;>intro hg))
 refine zai (τ:=Nat) (fun i=>⟨(al l.length (zaO l)::dq4 (al l.length (zaO l)::ai l.length::ai i::ztQ [])),[(4,⟨2,[]⟩)]⟩)
  (fun i=>i≤l.length) (fun i=>zbK (zkz l) i (l.drop i)) (fun i=>l.length - i) 0
  (Gh.canon [] [4] [] zK rfl rfl) (Nat.zero_le _) ?_
 intro i hi0 hF K hK
 rw[List.drop_zero]at hF
 refine zw ?_
 refine zaa (fun hlt=> ?_) (fun hge=> ?_)
 ·have hi:i<l.length:=by simpa using hlt
  have hat:=zde hi
  have hw:=zan hi (by omega)
  rw[zaL hi]at hF
  have hma:=zdk l[i] (hll _ (List.getElem_mem hi))
  cases e0:decide ((i:Int)>0)
  ·have h0:i=0:=by simpa using e0
   have hq:zkz l i l[i]= !(!answerB l[i]):=by
    unfold zkz
    have:decide (i>0)=false:=by simpa using e0
    rw[this,Bool.false_and,Bool.or_false]
   have hp:(zaO l).drop ((IntKind.i64.wrap ((i:Int) - 1)).toNat*6)=l[i].enc++zaO (l.drop (i+1)):=by
    rw[←zde hi,h0];rfl
   repeat'(first|exact zC|refine zq (I hat (I hp (I e0 (I @zaF zca)))) ?_|refine zx (hma) ?_|(apply zaa<;>intro hb)|(apply I;exact zI)|(apply I<;>intro hg))
   ·rw[hq,hb,if_neg (by simp)]at hF
    unfold memoB
    rw[←hF]
   ·exact hK _ (i+1) (Gh.canon [] [] [] (zk hw) rfl rfl) hi (by rw[zaL hi,hq,hb];rfl) (by omega)
  ·have h0:0<i:=by simpa using e0
   have hq:zkz l i l[i]= !(!answerB l[i]||decide ((l[i - 1]'(by omega)).client≥l[i].client)):=by
    unfold zkz zo9
    have:decide (i>0)=true:=by simpa using e0
    rw[this,List.getElem?_eq_getElem (by omega)]
    simp only[Bool.true_and,Option.map_some,Option.getD_some]
   have hp:=zde (show i - 1<l.length by omega)
   have hw1:IntKind.i64.wrap ((i:Int) - 1)=((i - 1:Nat):Int):=by rw[wrap64 (by omega) (by omega)];omega
   repeat'(first|exact zC|refine zq (I hat (I hp (I hw1 (I e0 (I @zaF zca))))) ?_|refine zx (hma) ?_|(apply zaa<;>intro hb)|(apply I;exact zI)|(apply I<;>intro hg))
   ·rw[hq,hb,if_neg (by simp)]at hF
    unfold memoB
    rw[←hF]
   ·exact hK _ (i+1) (Gh.canon [] [] [] (zk hw) rfl rfl) hi (by rw[zaL hi,hq,hb];rfl) (by omega)
 ·have hi:i=l.length:=by
   have:¬(i:Int)<l.length:=by simpa using hge
   omega
  rw[zdD hi]at hF
  unfold memoB
  rw[←hF]
  repeat'(first|exact zC|refine zq0 ?_|(apply zaa<;>intro hb)|(apply I;exact zI)|(apply I<;>intro hg))
abbrev stE (s:St):List D:=[iD s.time,iD s.num,iD s.token, .sl s.sess.length (za9 s.sess), .sl s.locks.length (zax s.locks), .sl s.memos.length (zaO s.memos)]
abbrev zy4 (s:St):RF:= .agg ((stE s).map RO.d)
abbrev zvB (a:Reply):RF:= .agg [.d (iD a.code), .d (iD a.session), .d (iD a.ahead), .own 2 a.held.length (zaK a.held) false]
structure Small (s:St):Prop where
 sess:s.sess.length<2^30
 locks:s.locks.length<2^30
 memos:s.memos.length<2^30
 line:∀k∈s.locks,k.line.length<2^30∧k.name.size<2^62
 held:∀m∈s.memos,zcI m.reply
abbrev zvC (l:List Sess) (gone:List Int):List Sess:=l.filter fun x=> !hasI gone x.client
abbrev zyL (b:St) (x:Sess):Bool:= !((zcB b.sess x.client).any fun y=>y.num==x.num)
theorem zhh (n:Int):CallOK Tryz.prog 119 [.f (ai n)] (fun r o=>r=[rb (within n)]∧o=[]):=by
 refine zh Tryz.func119 Tryz.results119 Tryz.ntmps119 Tryz.call119 ?_
 simp only[Tryz.f119,Option.getD]
 repeat'(first|exact zC|refine zq0 ?_|(apply zaa<;>intro hb)|(apply I;exact zI)|(apply I<;>intro hg))
 rfl
theorem zo2 (s:St) (h:Small s) (hs:SS s.sess):CallOK Tryz.prog 123 [.f (.agg s.lent)] (fun r o=>r=[rb (zf1 s)]∧o=[]):=by
 refine zh Tryz.func123 Tryz.results123 Tryz.ntmps123 Tryz.call123 ?_
 simp only[Tryz.f123,Option.getD]
 have hL:=h.locks
 repeat'(first|exact zC|refine zq0 ?_|(apply zaa<;>intro hb)|(apply I;exact zI)|(apply I<;>intro hg))
 refine zai (τ:=Nat) (fun i=>⟨(dd::ptq 1::dd::ab true::dq7 (al s.locks.length (zax s.locks)::ai s.locks.length::ai i::ztx [])),[(1,⟨2,[obq 1 [di s.time,di s.num,di s.token, .lent s.sess.length (za9 s.sess), .lent s.locks.length (zax s.locks), .lent s.memos.length (zaO s.memos)],none,none,none,none,none,none]⟩),(5,⟨2,[]⟩),(8,⟨2,[]⟩),(19,⟨2,[]⟩),(22,⟨2,[]⟩)]⟩)
  (fun i=>i≤s.locks.length) (fun i=>(s.locks.drop i).all fun k=>(k.holder::k.line).all fun c=>(zcB s.sess c).isSome) (fun i=>s.locks.length - i) 0
  (Gh.canon [1] [5,8,19,22] [] zK rfl rfl) (Nat.zero_le _) ?_
 intro i hi0 hF K hK
 rw[List.drop_zero]at hF
 refine zw ?_
 refine zaa (fun hlt=> ?_) (fun hge=> ?_)
 ·have hi:i<s.locks.length:=by simpa using hlt
  have hat:=zb8 hi
  have hw:=zan hi (by omega)
  have hli:=(h.line _ (List.getElem_mem hi)).1
  rw[List.drop_eq_getElem_cons hi,List.all_cons]at hF
  obtain⟨c,hc⟩:∃c,c=s.locks[i].holder::s.locks[i].line:=⟨_,rfl⟩
  have hcl:c.length=1+s.locks[i].line.length:=by rw[hc,List.length_cons];omega
  rw[←hc]at hF
  repeat'(first|exact zC|refine zq (I hat (I @zaz (I @zbf zca))) ?_|(apply zaa<;>intro hb)|(apply I;exact zI)|(apply I<;>intro hg))
  refine zai (τ:=Nat) (fun j=>⟨(dd::ptq 1::dd::ab true::dq7 (al s.locks.length (zax s.locks)::ai s.locks.length::ai i::dq8 (.one (.own ⟨19,1,1⟩ 0 c.length)::ai c.length::ai j::ztM []))),[(1,⟨2,[obq 1 [di s.time,di s.num,di s.token, .lent s.sess.length (za9 s.sess), .lent s.locks.length (zax s.locks), .lent s.memos.length (zaO s.memos)],none,none,none,none,none,none]⟩),(5,⟨2,[]⟩),(8,⟨2,[]⟩),(19,⟨2,[none,roq 1 1 (za1 c)]⟩),(22,⟨2,[]⟩)]⟩)
   (fun j=>j≤c.length) (fun j=>(c.drop j).all fun c=>(zcB s.sess c).isSome) (fun j=>c.length - j) 0
   (Gh.canon [1,19] [] [] (zk hcl) rfl (by rw[hc];rfl)) (Nat.zero_le _) ?_
  intro j hj0 hF2 K2 hK2
  rw[List.drop_zero]at hF2
  refine zw ?_
  refine zaa (fun hlt2=> ?_) (fun hge2=> ?_)
  ·have hj:j<c.length:=by simpa using hlt2
   have haj:=zcP hj
   have hwj:=zan hj (by omega)
   have hfi:=zq6 s.sess hs (by have:=h.sess;omega) c[j]
   rw[List.drop_eq_getElem_cons hj,List.all_cons]at hF2
   cases hb:(zcB s.sess c[j]).isSome
   ·rw[hb]at hfi hF2
    rw[←hF2]at hF
    repeat'(first|exact zC|refine zq (I haj (I @zmd (I @List.map_cons.{0,0} (I @zbf zca)))) ?_|refine zx (hfi) ?_|(apply zaa<;>intro hb)|(apply I;exact zI)|(apply I<;>intro hg))
    unfold zf1
    rw[←hF]
    rfl
   ·rw[hb]at hfi hF2
    repeat'(first|exact zC|refine zq (I haj (I @zmd (I @List.map_cons.{0,0} (I @zbf zca)))) ?_|refine zx (hfi) ?_|(apply zaa<;>intro hb)|(apply I;exact zI)|(apply I<;>intro hg))
    exact hK2 _ (j+1) (Gh.canon [1,19] [] [] (zk hwj) rfl rfl) hj (by rw[List.drop_eq_getElem_cons hj,List.all_cons,hb,Bool.true_and]) (by omega)
  ·have hj:j=c.length:=by
    have:¬(j:Int)<c.length:=by simpa using hge2
    omega
   rw[hj,List.drop_length,List.all_nil]at hF2
   rw[←hF2,Bool.true_and]at hF
   repeat'(first|exact zC|refine zq0 ?_|(apply zaa<;>intro hb)|(apply I;exact zI)|(apply I<;>intro hg))
   exact hK _ (i+1) (Gh.canon [1] [] [] (zk hw) rfl rfl) hi (by rw[List.drop_eq_getElem_cons hi,List.all_cons,←hc,←hF2,Bool.true_and]) (by omega)
 ·have hi:i=s.locks.length:=by
   have:¬(i:Int)<s.locks.length:=by simpa using hge
   omega
  rw[hi,List.drop_length,List.all_nil]at hF
  repeat'(first|exact zC|refine zq0 ?_|(apply zaa<;>intro hb)|(apply I;exact zI)|(apply I<;>intro hg))
  unfold zf1
  rw[←hF]
set_option maxHeartbeats 1000000 in
theorem zjj (s:St) (h:Small s):CallOK Tryz.prog 79 [.f (.agg s.lent)] (fun r o=>r=[rb (zcg s)]∧o=[]):=by
 refine zh Tryz.func79 Tryz.results79 Tryz.ntmps79 Tryz.call79 ?_
 simp only[Tryz.f79,Option.getD]
 have w1:=zhh s.time
 have w2:=zhh s.num
 have w3:=zhh s.token
 have hsr:=zkK s.sess h.sess
 have hlr:=zkJ s.locks h.locks h.line
 have hmr:=zkH s.memos h.memos h.held
 have hns:=h.sess
 have hnl:=h.locks
 cases hA:(!within s.time|| !within s.num|| !within s.token|| !sessB s.sess|| !lockB s.locks|| !memoB s.memos)
 ·have hss:SS s.sess:=(zkw.1 (by simp at hA;exact hA.1.1.2)).2.2.1
  have hrb:zcg s=((s.sess.all fun x=>decide (x.num≤s.num))&&(s.locks.all fun k=>decide (k.token≤s.token))&&zf1 s):=by
   unfold zcg
   simp at hA
   rw[hA.1.1.1.1.1,hA.1.1.1.1.2,hA.1.1.1.2,hA.1.1.2,hA.1.2,hA.2]
   rfl
  have hse:=zo2 s h hss
  repeat'(first|exact zC|refine zq hA ?_|refine zx (w1) ?_|refine zx (w2) ?_|refine zx (w3) ?_|refine zx (hsr) ?_|refine zx (hlr) ?_|refine zx (hmr) ?_|(apply zaa<;>intro hb)|(apply I;exact zI)|(apply I<;>intro hg))
  refine zai (τ:=Nat) (fun i=>⟨(dd::ptq 1::zgv (al s.sess.length (za9 s.sess)::ai s.sess.length::ai i::ztw [])),[(1,⟨2,[obq 1 [di s.time,di s.num,di s.token, .lent s.sess.length (za9 s.sess), .lent s.locks.length (zax s.locks), .lent s.memos.length (zaO s.memos)],none,none,none,none,none,none]⟩),(4,⟨2,[]⟩)]⟩)
   (fun i=>i≤s.sess.length) (fun i=>(s.sess.drop i).all fun x=>decide (x.num≤s.num)) (fun i=>s.sess.length - i) 0
   (Gh.canon [1] [4] [] zK rfl rfl) (Nat.zero_le _) ?_
  intro i hi0 hF K hK
  rw[List.drop_zero]at hF
  refine zw ?_
  refine zaa (fun hlt=> ?_) (fun hge=> ?_)
  ·have hi:i<s.sess.length:=by simpa using hlt
   have hat:=zcj hi
   have hw:=zan hi (by omega)
   rw[List.drop_eq_getElem_cons hi,List.all_cons]at hF
   repeat'(first|exact zC|refine zq (I hat (I @zaA zca)) ?_|(apply zaa<;>intro hb)|(apply I;exact zI)|(apply I<;>intro hg))
   ·rw[show decide (s.sess[i].num≤s.num)=false by simp at hb⊢;omega]at hF
    rw[hrb,←hF]
    rfl
   ·exact hK _ (i+1) (Gh.canon [1] [] [] (zk hw) rfl rfl) hi (by rw[List.drop_eq_getElem_cons hi,List.all_cons,show decide (s.sess[i].num≤s.num)=true by simp at hb⊢;omega,Bool.true_and]) (by omega)
  ·have hi:i=s.sess.length:=by
    have:¬(i:Int)<s.sess.length:=by simpa using hge
    omega
   rw[hi,List.drop_length,List.all_nil]at hF
   rw[←hF,Bool.true_and]at hrb
   repeat'(first|exact zC|refine zq0 ?_|(apply zaa<;>intro hb)|(apply I;exact zI)|(apply I<;>intro hg))
   refine zai (τ:=Nat) (fun i=>⟨(dd::ptq 1::zp1 (zgv (al s.locks.length (zax s.locks)::ai s.locks.length::ai i::ztK []))),[(1,⟨2,[obq 1 [di s.time,di s.num,di s.token, .lent s.sess.length (za9 s.sess), .lent s.locks.length (zax s.locks), .lent s.memos.length (zaO s.memos)],none,none,none,none,none,none]⟩),(4,⟨2,[]⟩),(6,⟨2,[]⟩)]⟩)
    (fun i=>i≤s.locks.length) (fun i=>(s.locks.drop i).all fun k=>decide (k.token≤s.token)) (fun i=>s.locks.length - i) 0
    (Gh.canon [1] [6] [] zK rfl rfl) (Nat.zero_le _) ?_
   intro i hi0 hF K hK
   rw[List.drop_zero]at hF
   refine zw ?_
   refine zaa (fun hlt=> ?_) (fun hge=> ?_)
   ·have hi:i<s.locks.length:=by simpa using hlt
    have hat:=zb8 hi
    have hw:=zan hi (by omega)
    rw[List.drop_eq_getElem_cons hi,List.all_cons]at hF
    repeat'(first|exact zC|refine zq (I hat (I @zaz zca)) ?_|(apply zaa<;>intro hb)|(apply I;exact zI)|(apply I<;>intro hg))
    ·rw[show decide (s.locks[i].token≤s.token)=false by simp at hb⊢;omega]at hF
     rw[hrb,←hF]
     rfl
    ·exact hK _ (i+1) (Gh.canon [1] [] [] (zk hw) rfl rfl) hi (by rw[List.drop_eq_getElem_cons hi,List.all_cons,show decide (s.locks[i].token≤s.token)=true by simp at hb⊢;omega,Bool.true_and]) (by omega)
   ·have hi:i=s.locks.length:=by
     have:¬(i:Int)<s.locks.length:=by simpa using hge
     omega
    rw[hi,List.drop_length,List.all_nil]at hF
    rw[←hF,Bool.true_and]at hrb
    rw[hrb]
    repeat'(first|exact zC|refine zq0 ?_|refine zx (hse) ?_|(apply zaa<;>intro hb)|(apply I;exact zI)|(apply I<;>intro hg))
 ·have hrb:zcg s=false:=by
   unfold zcg
   simp at hA
   simp
   intros
   simp_all
  rw[hrb]
  repeat'(first|exact zC|refine zq hA ?_|refine zx (w1) ?_|refine zx (w2) ?_|refine zx (w3) ?_|refine zx (hsr) ?_|refine zx (hlr) ?_|refine zx (hmr) ?_|(apply zaa<;>intro hb)|(apply I;exact zI)|(apply I<;>intro hg))
abbrev zy3 (s:St):AV:= .agg ((stE s).map C.d)
theorem zfZ {b:ByteArray} (h:nameP b=true):b.size≤12:=by
 unfold nameP at h
 simp only[Bool.and_eq_true,decide_eq_true_eq]at h
 omega
theorem zo1 {r:Reply} (h:zcf r=true):zcI r:=by
 unfold zcf at h
 simp only[Bool.and_eq_true,Bool.not_eq_true',Bool.or_eq_false_iff,decide_eq_false_iff_not]at h
 obtain⟨⟨_,h1,_⟩,h2⟩:=h
 refine⟨by omega,fun g hg=> ?_⟩
 obtain⟨j,hj,rfl⟩:=List.getElem_of_mem hg
 have:=zco.1 h2 j hj
 unfold ze0 at this
 simp only[Bool.not_eq_true',Bool.or_eq_false_iff,Bool.not_eq_false']at this
 have:=zfZ this.1.1.1
 omega
theorem zf0:∀{l:List Int} {a b:Int},l.Pairwise (·<·)→(∀x∈l,a≤x∧x<b)→(l.length:Int)≤max (b - a) 0
 |[],a,b,_,_=>by simp;omega
 |x::l,a,b,h,hb=>by
  have h':=List.pairwise_cons.1 h
  have hx:=hb x (List.mem_cons_self ..)
  have:=zf0 (a:=x+1) (b:=b) h'.2 (fun y hy=>⟨by have:=h'.1 y hy;omega,(hb y (List.mem_cons_of_mem _ hy)).2⟩)
  simp only[List.length_cons];omega
theorem zdK {m:Memo} (h:answerB m=true):(0≤m.client∧m.client<8)∧(1≤m.seq∧m.seq≤zdU)∧zcf m.reply=true:=by
 unfold answerB at h
 simp only[Bool.and_eq_true,decide_eq_true_eq]at h
 exact⟨⟨h.1.1.1.1,h.1.1.1.2⟩,⟨h.1.1.2,h.1.2⟩,h.2⟩
theorem zdL {s:St} (h:RightS s):Small s:=by
 refine⟨by have:=h.sl;omega,by have:=h.ll;omega, ?_,fun k hk=> ?_,fun m hm=>zo1 (zdK (h.mok m hm)).2.2⟩
 ·have:=zf0 (a:=0) (b:=8) (zsd.1 h.ms) (fun x hx=>by
   obtain⟨m,hm,rfl⟩:=List.mem_map.1 hx
   exact(zdK (h.mok m hm)).1)
  rw[List.length_map]at this
  omega
 ·obtain⟨a,_,b,_⟩:=h.lok k hk
  have h1:=(zkx.1 b).1
  have h2:=zfZ (zmx.1 a).1
  omega
abbrev zy7 (l:List Sess) (gone:List Int) (i:Nat):List Sess:=zvC l (gone.take i)
def zcA (n:Int):Prop:=0≤n∧n<256
def zuw:List ByteArray:=[⟨#[97]⟩,⟨#[98]⟩,⟨#[99]⟩,⟨#[100]⟩,⟨#[107,101,121,45,49]⟩,⟨#[116,104,101,45,108,97,115,116,45,111,110,101]⟩]
def zux (n:Int):ByteArray:=(zuw[(n % 6).toNat]?).getD .empty
def zo0 (a:Int):Int:=1+a % 6
def zvz (a b:Int):Int:=if zo0 a=1 then 0 else 1+b % 7
def zvA (a c:Int):ByteArray:=if(zo0 a==3||zo0 a==4||zo0 a==5)=true then zux c else .empty
structure Act where
 time:Int
 client:Int
 seq:Int
 kind:Int
 session:Int
 name:Int
abbrev Act.enc (a:Act):List D:=[uD a.time,uD a.client,uD a.seq,uD a.kind,uD a.session,uD a.name]
abbrev zyH (l:List Act):List D:=l.flatMap Act.enc
def zyI (a:Act):Prop:=zcA a.time∧zcA a.client∧zcA a.seq∧zcA a.kind∧zcA a.session∧zcA a.name
def zyJ (c q k s n:Int):Req:=⟨c % 8,1+q,zo0 k,zvz k s,zvA k n⟩
def zyK (s:St) (a:Act):Req:=
 let r:=zyJ a.client (a.seq % 6) a.kind a.session a.name
 let b1:=(zcB s.sess r.client).isSome&&decide (a.session % 8>0)&&(r.kind !=1)
 let b2:= !(zcB s.sess r.client).isSome&&decide (a.session % 4>0)
 ⟨r.client,if decide (a.seq % 5>0)=true then(if(zpe s.memos r.client).isSome=true then((zpe s.memos r.client).getD zuI).seq+1 else 1)else r.seq,
  if b2=true then 1 else r.kind,if b2=true then 0 else if b1=true then((zcB s.sess r.client).getD zmD).num else r.session,if b2=true then .empty else r.name⟩
def zyP (r:Reply):Bool:=decide (r.code<0)||decide (r.code>12)|| !(decide (r.session≥0)&&decide (r.session≤2305843009213693952))||decide (r.ahead<0)||decide (r.ahead>3)||decide ((r.held.length:Int)>4)||r.session==0&&decide ((r.held.length:Int)>0)
def kR (a:Memo):List Memo→Bool→List Memo
 |[],put=>if put=true then []else [a]
 |m::r,put=>if(m.client==a.client)=true then a::kR a r true else if(!put&&decide (m.client>a.client))=true then a::m::kR a r true else m::kR a r put
abbrev zyt (a:Memo):List C:=[di a.client,di a.seq,di a.reply.code,di a.reply.session,di a.reply.ahead, .d (.sl a.reply.held.length (zaK a.reply.held))]
abbrev ztb (a:Reply):RF:= .agg [.d (iD a.code), .d (iD a.session), .d (iD a.ahead), .d (.sl a.held.length (zaK a.held))]
def sameI (a b:List Int):Bool:=(a.length==b.length)&&((a.zip b).all fun p=>p.1==p.2)
theorem zlA (a b:List Int) (ha:a.length<2^62) (hb:b.length<2^62):CallOK Tryz.prog 185 [.f (al a.length (za1 a)), .f (al b.length (za1 b))] (fun r o=>r=[rb (sameI a b)]∧o=[]):=by
 refine zh Tryz.func185 Tryz.results185 Tryz.ntmps185 Tryz.call185 ?_
 simp only[Tryz.f185,Option.getD]
 cases hl:((a.length:Int) !=(b.length:Int))
 ·have hle:a.length=b.length:=by simp at hl;omega
  have hs:sameI a b=(a.zip b).all fun p=>p.1==p.2:=by unfold sameI;rw[hle];simp
  rw[hs]
  repeat'(first|exact zC|refine zq hl ?_|(apply zaa<;>intro hb)|(apply I;exact zI)|(apply I<;>intro hg))
  refine zai (τ:=Nat) (fun i=>⟨(al a.length (za1 a)::al b.length (za1 b)::dq3 (ai i::zp6 [])),[]⟩)
   (fun i=>i≤a.length) (fun i=>((a.drop i).zip (b.drop i)).all fun p=>p.1==p.2) (fun i=>a.length - i) 0
   (Gh.canon [] [] [] zK rfl rfl) (Nat.zero_le _) ?_
  intro i hi0 hF K hK
  rw[List.drop_zero,List.drop_zero]at hF
  refine zw ?_
  refine zaa (fun hlt=> ?_) (fun hge=> ?_)
  ·have hi:i<a.length:=by simpa using hlt
   have hib:i<b.length:=by omega
   have hat:=zcP hi
   have hbt:=zcP hib
   have hw:=zan hi ha
   have hq:(((a.drop i).zip (b.drop i)).all fun p=>p.1==p.2)=((a[i]==b[i])&&(((a.drop (i+1)).zip (b.drop (i+1))).all fun p=>p.1==p.2)):=by
    rw[List.drop_eq_getElem_cons hi,List.drop_eq_getElem_cons hib,List.zip_cons_cons,List.all_cons]
   rw[hq]at hF
   cases he:a[i] !=b[i]
   ·have he':(a[i]==b[i])=true:=by simpa using he
    rw[he',Bool.true_and]at hq
    repeat'(first|exact zC|refine zq (I hat (I hbt (I he (I @zbf zca)))) ?_|(apply zaa<;>intro hb)|(apply I;exact zI)|(apply I<;>intro hg))
    exact hK _ (i+1) (Gh.canon [] [] [] (zk hw) rfl rfl) hi hq.symm (by omega)
   ·have he':(a[i]==b[i])=false:=by simpa using he
    rw[he',Bool.false_and]at hF
    repeat'(first|exact zC|refine zq (I hat (I hbt (I he (I @zbf zca)))) ?_|(apply zaa<;>intro hb)|(apply I;exact zI)|(apply I<;>intro hg))
    rw[←hF]
  ·have hi:i=a.length:=by
    have:¬(i:Int)<a.length:=by simpa using hge
    omega
   rw[hi,List.drop_length,List.zip_nil_left,List.all_nil]at hF
   rw[←hF]
   repeat'(first|exact zC|refine zq0 ?_|(apply zaa<;>intro hb)|(apply I;exact zI)|(apply I<;>intro hg))
 ·have hs:sameI a b=false:=by
   have:(a.length==b.length)=false:=by simp at hl⊢;omega
   unfold sameI;rw[this];rfl
  rw[hs]
  repeat'(first|exact zC|refine zq hl ?_|(apply zaa<;>intro hb)|(apply I;exact zI)|(apply I<;>intro hg))
def st0:St:=⟨0,0,0,[],[],[]⟩
def rq0:Req:=⟨3,1,1,0, .empty⟩
def st1:St:=⟨0,1,0,[⟨3,1,0⟩],[],[⟨3,1,⟨0,1,0,[]⟩⟩]⟩
def zvy (s:St) (a:Act):St:=(zuE (zmy s (s.time+a.time % 16) 60) (zyK (zmy s (s.time+a.time % 16) 60) a)).1
def zuv:List Act→St→St
 |[],s=>s
 |a::r,s=>zuv r (zvy s a)
structure Mk (s:St) (i:Nat):Prop where
 rt:RightS s
 num:s.num≤i
 tok:s.token≤8*i
abbrev zyG (acts:List Act):St:=zuv (acts.take 60) st0
abbrev zad (l:List Int):List D:=l.map uD
def zoW (v:Int) (k:Nat):Int:=IntKind.u8.wrap (v.fdiv (2^(8*(7 - k))))
def zbI (v:Int):List Int:=(List.range 8).map (zoW v)
abbrev zut (v:Int) (i:Nat):List D:=(List.range 8).map fun k=>uD (if k<i then zoW v k else 0)
theorem zcH {v:Int} (h0:0≤v) (h1:v≤255):IntKind.u8.wrap v=v:=by
 have e:IntKind.u8.wrap v=v % 256:=by
  unfold IntKind.wrap
  simp[IntKind.bits,IntKind.signed]
 rw[e]
 omega
theorem zqX (v:Int) (i:Nat) (hi:i<8):(zut v i).set i (uD (zoW v i))=zut v (i+1):=by
 apply List.ext_getElem
 ·simp
 ·intro k h1 h2
  simp only[List.length_set,List.length_map,List.length_range]at h1
  rw[List.getElem_set]
  simp only[List.getElem_map,List.getElem_range]
  split
  ·rename_i e;subst e;rw[if_pos (by omega)]
  ·rename_i e
   by_cases h:k<i
   ·rw[if_pos h,if_pos (by omega)]
   ·rw[if_neg h,if_neg (by omega)]
theorem zin (v:Int) (h:0≤v∧v≤255):CallOK Tryz.prog 63 [.f (ai v)] (fun r o=>r=[.one (.own 1 1 (zad [v]) false),ri 0]∧o=[]):=by
 refine zh Tryz.func63 Tryz.results63 Tryz.ntmps63 Tryz.call63 ?_
 simp only[Tryz.f63,Option.getD]
 have h1:decide (v<0)=false:=by simp;omega
 have h2:decide (v>255)=false:=by simp;omega
 have hw:IntKind.u8.wrap v=v:=zcH h.1 h.2
 repeat'(first|exact zC|refine zq (I h1 (I h2 hw)) ?_|(apply zaa<;>intro hb)|(apply I;exact zI)|(apply I<;>intro hg))
theorem zcz (v:Int) (h:0≤v∧v<4611686018427387904):CallOK Tryz.prog 64 [.f (ai v)] (fun r o=>r=[.one (.own 1 8 (zad (zbI v)) false),ri 0]∧o=[]):=by
 refine zh Tryz.func64 Tryz.results64 Tryz.ntmps64 Tryz.call64 ?_
 simp only[Tryz.f64,Option.getD]
 have h1:decide (v<0)=false:=by simp;omega
 have h2:decide (v≥4611686018427387904)=false:=by simp;omega
 repeat'(first|exact zC|refine zq (I h1 h2) ?_|(apply zaa<;>intro hb)|(apply I;exact zI)|(apply I<;>intro hg))
 refine zai (τ:=Nat) (fun i=>⟨(ai v::dq3 (.one (.own ⟨4,1,1⟩ 0 8)::dq9 (ai 8::ai i::zp1 []))),[(12,⟨2,[]⟩),(4,⟨2,[none,roq 1 1 (zut v i)]⟩)]⟩)
  (fun i=>i≤8) (fun _=>()) (fun i=>8 - i) 0
  (Gh.canon [4] [] [] zK rfl rfl) (Nat.zero_le _) ?_
 intro i hi0 hF K hK
 refine zw ?_
 refine zaa (fun hlt=> ?_) (fun hge=> ?_)
 ·have hi:i<8:=by simp at hlt;omega
  have w1:IntKind.i64.wrap (7 - (i:Int))=7 - i:=wrap64 (by omega) (by omega)
  have w2:IntKind.i64.wrap (8*(7 - (i:Int)))=((8*(7 - i):Nat):Int):=by rw[wrap64 (by omega) (by omega)];omega
  have w3:¬(((8*(7 - i):Nat):Int)<0):=by omega
  have w4:min (8*(7 - i)) IntKind.i64.bits=8*(7 - i):=by have:IntKind.i64.bits=64:=rfl;omega
  have hw:IntKind.i64.wrap ((i:Int)+1)=((i+1:Nat):Int):=by rw[wrap64 (by omega) (by omega)];omega
  have hset:((zut v i).map C.d).set i (C.d (D.v (Value.int IntKind.u8 (IntKind.u8.wrap (v.fdiv (2^(8*(7 - i))))))))=(zut v (i+1)).map C.d:=by
   have:=zqX v i hi
   rw[←this,List.map_set];rfl
  have hle:(i+1≤8)=True:=eq_true (by omega)
  repeat'(first|(with_reducible first|refine zat _ _ ?_|refine zcN ?_|refine zcO ?_)|rw[zcm]|simp only[w1,w2,if_neg w3,Int.toNat_natCast,w4,hset,List.length_range,hle,zY,Int.reduceEq,Int.reduceBEq,Int.reduceBNe,Nat.reduceSub,Nat.reduceEqDiff,Nat.reduceAdd,Nat.reduceMul,Nat.reduceLeDiff,Nat.reduceLT,Nat.reduceBEq,reduceCtorEq]|refine zbN ?_|refine zaa (fun hb=> ?_) (fun hb=> ?_)|(refine And.intro ?_ ?_;exact zI)|refine And.intro (fun hg=> ?_) (fun hg=> ?_)|exact zC|fail)
  exact hK _ (i+1) (Gh.canon [4] [] [] (zk hw) rfl rfl) hi rfl (by omega)
 ·have hi:i=8:=by
   have:¬(i:Int)<8:=by simpa using hge
   omega
  subst hi
  repeat'(first|exact zC|refine zq0 ?_|(apply zaa<;>intro hb)|(apply I;exact zI)|(apply I<;>intro hg))
  rfl
theorem zji (s:ByteArray):s.data.toList.length=s.size:=by rw[Array.length_toList];rfl
abbrev zuu (s:ByteArray):List D:=s.data.toList.map fun b=>uD b.toNat
def zgr (s:ByteArray):List D:=uD s.size::zuu s
theorem zfz (s:ByteArray):(zgr s).length=1+s.size:=by simp[zgr,zji,Nat.add_comm]
theorem zfY (s:ByteArray) (h:s.size≤255):CallOK Tryz.prog 111 [.f (ast s)] (fun r o=>r=[.one (.own 1 (1+s.size) (zgr s) false),ri 0]∧o=[]):=by
 refine zh Tryz.func111 Tryz.results111 Tryz.ntmps111 Tryz.call111 ?_
 simp only[Tryz.f111,Option.getD]
 have h1:decide ((s.size:Int)>255)=false:=by simp;omega
 have hw:IntKind.u8.wrap (s.size:Int)=s.size:=zcH (by omega) (by omega)
 have hle:(1+s.size≤2^47)=True:=eq_true (by omega)
 repeat'(first|exact zC|refine zq (I h1 (I hw (I @zji hle))) ?_|(apply zaa<;>intro hb)|(apply I;exact zI)|(apply I<;>intro hg))
 rfl
theorem zs5 (n:Nat) (h:n<2^40):CallOK Tryz.prog 112 [.f (.one (.d (.v (.slice none 0 0)))), .f (ai n)] (fun r o=>r=[.one (.own 1 0 (zdJ [.int .u8 0] n) false)]∧o=[]):=by
 refine zh2 zcp mixed (T:=Ty) (n:=27) Tryz.func112 (c:=Tryz.f112.body.getD .skip) rfl Tryz.results112 Tryz.ntmps112 Tryz.call112
  (fun _=>⟨(openG 27 [.f (.one (.d (.v (.slice none 0 0)))), .f (ai n)]).v.set 0 (.one (.gap ⟨0,1,0⟩ 0 0 0)),[(0,⟨1,[none,some {e:=0,var:=false,fz:=false,sz:=1,cells:=[]}]⟩)]⟩)
  (fun _=>True) (fun cx a w hh=>⟨0,trivial,Gh.nilG (i:=0) (s:=0) (sz:=1) rfl cx a w hh⟩) ?_
 intro k _
 simp only[Tryz.f112,Option.getD]
 have h1:decide ((n:Int)<0)=false:=by simp
 have hw:IntKind.i64.wrap ((n:Int) - IntKind.i64.wrap (((0:Nat):Int) - ((0:Nat):Int)))=n:=by
  rw[show IntKind.i64.wrap (((0:Nat):Int) - ((0:Nat):Int))=0 from by decide,Int.sub_zero,wrap64 (by omega) (by omega)]
 cases h2:decide ((n:Int)>0)
 ·have:n=0:=by simp at h2;omega
  subst this
  repeat'(first|exact zC|refine zq (I h1 (I hw h2)) ?_|(apply zaa<;>intro hb)|(apply I;exact zI)|(apply I<;>intro hg))
  rfl
 ·have h3:0<n:=by simp at h2;omega
  have hc1:(0≤(n:Int)∧(n:Int)<2^62∧0<n∧n≤2^47)=True:=eq_true (by omega)
  repeat'(first|exact zC|refine zq (I h1 (I hw (I h2 (I hc1 @Int.toNat_natCast)))) ?_|(apply zaa<;>intro hb)|(apply I;exact zI)|(apply I<;>intro hg))
def zs6 (ls:List (List D)) (i:Nat):List D:=if i=0 then zdJ [.int .u8 0] ls.flatten.length else(ls.take i).flatten
theorem zoX (ls:List (List D)) (i:Nat):(zs6 ls i).take (ls.take i).flatten.length=(ls.take i).flatten:=by
 unfold zs6
 split
 ·rename_i h;subst h;simp
 ·rw[List.take_length]
theorem zfA {ls:List (List D)} {i:Nat} (hi:i<ls.length):(ls.take (i+1)).flatten=(ls.take i).flatten++ls[i]:=by
 rw[List.take_succ_eq_append_getElem hi,List.flatten_append];simp
theorem zlz {ls:List (List D)} {m:Nat} (hs:∀l∈ls,l.length≤m):∀i,(ls.take i).flatten.length≤i*m
 |0=>by simp
 |i+1=>by
  by_cases hi:i<ls.length
  ·rw[zfA hi,List.length_append]
   have:=zlz hs i
   have:=hs _ (List.getElem_mem hi)
   rw[Nat.add_mul];omega
  ·have h1:ls.take (i+1)=ls:=List.take_of_length_le (by omega)
   have h2:ls.take i=ls:=List.take_of_length_le (by omega)
   rw[h1,←h2]
   have:=zlz hs i
   rw[Nat.add_mul];omega
theorem zoY {ls:List (List D)} {i:Nat} (hi:i<ls.length):zs6 ls (i+1)=(ls.take i).flatten++ls[i]:=by
 unfold zs6
 rw[if_neg (by omega),zfA hi]
theorem zqY (ls:List (List D)):zs6 ls ls.length=ls.flatten:=by
 unfold zs6
 cases ls with
 |nil=>rfl
 |cons a l=>rw[if_neg (by simp),List.take_length]
abbrev zp2 (ls:List (List D)):List D:=ls.map fun l=> .sl l.length l
theorem zsc {ls:List (List D)} {i:Nat} (hi:i<ls.length):(zp2 ls).drop i= .sl ls[i].length ls[i]::zp2 (ls.drop (i+1)):=by
 rw[←List.map_drop,List.drop_eq_getElem_cons hi];rfl
theorem zoZ {ls:List (List D)}:(zp2 ls).length=ls.length:=by simp
theorem zhf (ls:List (List D)) (hl:ls.length<2^10) (hs:∀l∈ls,l.length≤2^12):
  CallOK Tryz.prog 66 [.f (al ls.length (zp2 ls))] (fun r o=>r=[.one (.own 1 ls.flatten.length ls.flatten false)]∧o=[]):=by
 refine zh Tryz.func66 Tryz.results66 Tryz.ntmps66 Tryz.call66 ?_
 simp only[Tryz.f66,Option.getD]
 have hfl:=zlz hs
 repeat'(first|exact zC|refine zq0 ?_|(apply zaa<;>intro hb)|(apply I;exact zI)|(apply I<;>intro hg))
 refine zai (τ:=Nat) (fun i=>⟨(al ls.length (zp2 ls)::dq2 (ai (ls.take i).flatten.length::dq5 (al ls.length (zp2 ls)::ai ls.length::ai i::ztw []))),[(5,⟨2,[]⟩)]⟩)
  (fun i=>i≤ls.length) (fun _=>()) (fun i=>ls.length - i) 0
  (Gh.canon [] [5] [] (zk (I @List.take_zero.{0} (I @List.flatten_nil.{0} @List.length_nil.{0}))) rfl rfl) (Nat.zero_le _) ?_
 intro i hi0 hF K hK
 refine zw ?_
 refine zaa (fun hlt=> ?_) (fun hge=> ?_)
 ·have hi:i<ls.length:=by simpa using hlt
  have hat:=zsc hi
  have hw:=zan hi (by omega)
  have hb:=hfl i
  have hb2:=hfl (i+1)
  have hil:i*2^12≤2^10*2^12:=Nat.mul_le_mul_right _ (by omega)
  have hil2:(i+1)*2^12≤2^10*2^12:=Nat.mul_le_mul_right _ (by omega)
  have hfs:(ls.take (i+1)).flatten.length=(ls.take i).flatten.length+ls[i].length:=by rw[zfA hi,List.length_append]
  have hws:IntKind.i64.wrap (((ls.take i).flatten.length:Int)+(ls[i].length:Int))=((ls.take (i+1)).flatten.length:Int):=by rw[wrap64 (by omega) (by omega),hfs];omega
  have hn:decide (((ls.take (i+1)).flatten.length:Int)<0)=false:=by simp
  repeat'(first|exact zC|refine zq (I hat (I hws (I hn @zoZ))) ?_|(apply zaa<;>intro hb)|(apply I;exact zI)|(apply I<;>intro hg))
  exact hK _ (i+1) (Gh.canon [] [] [] (zk hw) rfl rfl) hi rfl (by omega)
 ·have hi:i=ls.length:=by
   have:¬(i:Int)<ls.length:=by simpa using hge
   omega
  subst hi
  have hb:=hfl ls.length
  have hil:ls.length*2^12≤2^10*2^12:=Nat.mul_le_mul_right _ (by omega)
  rw[List.take_length]at*
  have hgr:=zs5 ls.flatten.length (by omega)
  clear hK
  repeat'(first|exact zC|refine zq0 ?_|refine zx (hgr) ?_|(apply zaa<;>intro hb)|(apply I;exact zI)|(apply I<;>intro hg))
  refine zai (τ:=Nat) (fun i=>⟨(dq6 (.one (.own ⟨6,1,1⟩ 0 (ls.take i).flatten.length)::zsm (al ls.length (zp2 ls)::ai ls.length::ai i::dq8 []))),[(5,⟨2,[]⟩),(24,⟨2,[]⟩),(6,⟨2,[none,roq 1 1 (zs6 ls i)]⟩),(8,⟨2,[]⟩),(33,⟨2,[]⟩)]⟩)
   (fun i=>i≤ls.length) (fun _=>()) (fun i=>ls.length - i) 0
   (Gh.canon [6] [8,33] [] (zk (I @List.take_zero.{0} (I @List.flatten_nil.{0} @List.length_nil.{0}))) rfl rfl) (Nat.zero_le _) ?_
  intro i hi0 hF K hK
  refine zw ?_
  refine zaa (fun hlt=> ?_) (fun hge=> ?_)
  ·have hi:i<ls.length:=by simpa using hlt
   have hat:=zsc hi
   have hw:=zan hi (by omega)
   have hb:=hfl i
   have hb2:=hfl (i+1)
   have hil:i*2^12≤2^10*2^12:=Nat.mul_le_mul_right _ (by omega)
   have hil2:(i+1)*2^12≤2^10*2^12:=Nat.mul_le_mul_right _ (by omega)
   have hfs:(ls.take (i+1)).flatten.length=(ls.take i).flatten.length+ls[i].length:=by rw[zfA hi,List.length_append]
   have hle:((ls.take i).flatten.length+ls[i].length≤2^47)=True:=eq_true (by omega)
   repeat'(first|exact zC|refine zq (I hat (I @zoZ (I @zyF (I @zoX (I hle @za6))))) ?_|(apply zaa<;>intro hb)|(apply I;exact zI)|(apply I<;>intro hg))
   exact hK _ (i+1) (Gh.canon [6] [] [] (zk (I hw hfs)) rfl (by rw[zoY hi];rfl)) hi rfl (by omega)
  ·have hi:i=ls.length:=by
    have:¬(i:Int)<ls.length:=by simpa using hge
    omega
   subst hi
   repeat'(first|exact zC|refine zq0 ?_|(apply zaa<;>intro hb)|(apply I;exact zI)|(apply I<;>intro hg))
   rw[List.take_length,zqY]
theorem zdi (n:Int):(zad (zbI n)).length=8:=rfl
theorem zhg {l:List Int} {i:Nat} (hi:i<l.length):(zad l).drop i=uD (l.getD i 0)::zad (l.drop (i+1)):=by
 rw[←List.map_drop,List.drop_eq_getElem_cons hi,List.getD_eq_getElem?_getD,List.getElem?_eq_getElem hi];rfl
theorem zaV {l:List Int}:(zad l).length=l.length:=by simp
def codeOf:Value→Value
 | .iface _ (.agg ⟨[c]⟩)=>c
 |_=>undef
abbrev zdW (t:Nat) (n:Int):Value:= .iface t (.agg #[.int .i64 n])
def zhu (t:Nat) (x:Value):Prop:=∃n,x=zdW t n
def nw3 (z:Value) (x:Value) (k:Nat):List Value:=if k=4 then [z]else if k=5 then [.int .i64 0]else [codeOf x]
def nwT (x:Value) (k:Nat):List Value:=if k=6 then [.string .empty]else if k=7 then [.int .i64 0]else [codeOf x]
def sz3 (_:Nat):Nat:=1
theorem ztD {l:List Value} (h:l.length=1):∃a,l=[a]:=by
 match l,h with
 |[a],_=>exact⟨a,rfl⟩
theorem cells3 {ks:List Nat} {ls:List (List Value)} (hk:ks.length=3) (h:ls.length=ks.length) (hs:∀(i k:Nat) (l:List Value),ks[i]? =some k→ls[i]? =some l→l.length=sz3 k):∃a b c,ls=[[a],[b],[c]]:=by
 rw[hk]at h
 match ls,h with
 |[x,y,z],_=>
  obtain⟨a,rfl⟩:=ztD (hs 0 ks[0] x (List.getElem?_eq_getElem (by omega)) rfl)
  obtain⟨b,rfl⟩:=ztD (hs 1 ks[1] y (List.getElem?_eq_getElem (by omega)) rfl)
  obtain⟨c,rfl⟩:=ztD (hs 2 ks[2] z (List.getElem?_eq_getElem (by omega)) rfl)
  exact⟨a,b,c,rfl⟩
theorem zhv {P:Program} {t:Nat} {z:Value} (h:(P.info? t).bind (·.zero)=some z) (w:World):(zeroValue t).run P w= .ok z w:=by
 cases hi:P.info? t with
 |none=>rw[hi]at h;cases h
 |some i=>rw[hi]at h;simp[zeroValue,typeInfo,hi,show i.zero=some z from h]
theorem zf8:(Tryz.prog.info? 206).bind (·.zero)=some (.agg #[.int .i64 0]):=by kernel_rfl
theorem zhw:zgX Tryz.prog 172 [4,5,6] sz3 (nw3 (.int .i64 0)) (zhu 206):=by
 refine zdY zcp mixed (T:=Ty) Tryz.func172 rfl rfl Tryz.ntmps172 rfl rfl rfl rfl rfl rfl rfl (by decide) (by decide) (by decide) ?_
 rintro x ⟨n,rfl⟩ ls hl hs
 obtain⟨a,b,c,rfl⟩:=cells3 rfl hl hs
 refine⟨.tuple #[.agg #[.int .i64 n], .bool true], .tup [.agg [di n],ab true], ?_, ?_,rfl, ?_⟩
 ·intro w
  simp[Instr.typeAssert,Tryz.underlying206]
 ·intro cx w r β
  simp[ReA,ReAs,ReC,ReCs,Rd,flat]
 ·simp only[zaU,plainO,List.map_cons,List.map_nil]
  first|refine zs0 ?_|exact zt0
  repeat'(first|exact zC|refine zq0 ?_|(apply zaa<;>intro hb)|(apply I;exact zI)|(apply I<;>intro hg))
  rfl
theorem ziB:zlm Tryz.prog 172 3:=by
 refine zcY zcp mixed (T:=Ty) Tryz.func172 rfl rfl Tryz.ntmps172 rfl rfl rfl rfl rfl rfl rfl (by decide) (y7:= .tuple #[.agg #[.int .i64 0], .bool false]) (V7:= .tup [.agg [di 0],ab false]) ?_ ?_ (by decide) rfl ?_
 ·intro w
  simp[Instr.typeAssert,Tryz.underlying206,zhv (zf8) w]
 ·intro cx w r β
  simp[ReA,ReAs,ReC,ReCs,Rd,flat]
 ·simp only[List.replicate]
  first|refine zs0 ?_|exact zt0
  repeat'(first|exact zC|refine zq0 ?_|(apply zaa<;>intro hb)|(apply I;exact zI)|(apply I<;>intro hg))
theorem ziC:zgX Tryz.prog 174 [4,5,6] sz3 (nw3 (.int .i64 0)) (zhu 206):=by
 refine zdY zcp mixed (T:=Ty) Tryz.func174 rfl rfl Tryz.ntmps174 rfl rfl rfl rfl rfl rfl rfl (by decide) (by decide) (by decide) ?_
 rintro x ⟨n,rfl⟩ ls hl hs
 obtain⟨a,b,c,rfl⟩:=cells3 rfl hl hs
 refine⟨.tuple #[.agg #[.int .i64 n], .bool true], .tup [.agg [di n],ab true], ?_, ?_,rfl, ?_⟩
 ·intro w
  simp[Instr.typeAssert,Tryz.underlying206]
 ·intro cx w r β
  simp[ReA,ReAs,ReC,ReCs,Rd,flat]
 ·simp only[zaU,plainO,List.map_cons,List.map_nil]
  first|refine zs0 ?_|exact zt0
  repeat'(first|exact zC|refine zq0 ?_|(apply zaa<;>intro hb)|(apply I;exact zI)|(apply I<;>intro hg))
  rfl
theorem zkO:zlm Tryz.prog 174 3:=by
 refine zcY zcp mixed (T:=Ty) Tryz.func174 rfl rfl Tryz.ntmps174 rfl rfl rfl rfl rfl rfl rfl (by decide) (y7:= .tuple #[.agg #[.int .i64 0], .bool false]) (V7:= .tup [.agg [di 0],ab false]) ?_ ?_ (by decide) rfl ?_
 ·intro w
  simp[Instr.typeAssert,Tryz.underlying206,zhv (zf8) w]
 ·intro cx w r β
  simp[ReA,ReAs,ReC,ReCs,Rd,flat]
 ·simp only[List.replicate]
  first|refine zs0 ?_|exact zt0
  repeat'(first|exact zC|refine zq0 ?_|(apply zaa<;>intro hb)|(apply I;exact zI)|(apply I<;>intro hg))
theorem zdR:zgX Tryz.prog 198 [6,7,8] sz3 (nwT) (zhu 206):=by
 refine zdY zcp mixed (T:=Ty) Tryz.func198 rfl rfl Tryz.ntmps198 rfl rfl rfl rfl rfl rfl rfl (by decide) (by decide) (by decide) ?_
 rintro x ⟨n,rfl⟩ ls hl hs
 obtain⟨a,b,c,rfl⟩:=cells3 rfl hl hs
 refine⟨.tuple #[.agg #[.int .i64 n], .bool true], .tup [.agg [di n],ab true], ?_, ?_,rfl, ?_⟩
 ·intro w
  simp[Instr.typeAssert,Tryz.underlying206]
 ·intro cx w r β
  simp[ReA,ReAs,ReC,ReCs,Rd,flat]
 ·simp only[zaU,plainO,List.map_cons,List.map_nil]
  first|refine zs0 ?_|exact zt0
  repeat'(first|exact zC|refine zq0 ?_|(apply zaa<;>intro hb)|(apply I;exact zI)|(apply I<;>intro hg))
  rfl
theorem zeR:zlm Tryz.prog 198 3:=by
 refine zcY zcp mixed (T:=Ty) Tryz.func198 rfl rfl Tryz.ntmps198 rfl rfl rfl rfl rfl rfl rfl (by decide) (y7:= .tuple #[.agg #[.int .i64 0], .bool false]) (V7:= .tup [.agg [di 0],ab false]) ?_ ?_ (by decide) rfl ?_
 ·intro w
  simp[Instr.typeAssert,Tryz.underlying206,zhv (zf8) w]
 ·intro cx w r β
  simp[ReA,ReAs,ReC,ReCs,Rd,flat]
 ·simp only[List.replicate]
  first|refine zs0 ?_|exact zt0
  repeat'(first|exact zC|refine zq0 ?_|(apply zaa<;>intro hb)|(apply I;exact zI)|(apply I<;>intro hg))
abbrev asl (n:Nat) (ds:List D):AV:= .one (.d (.sl n ds))
abbrev rdr (n:Nat) (ds:List D) (p:Int):List RO:=[.d (.sl n ds), .d (iD p)]
theorem znB (n:Nat) (ds:List D) (p k:Nat) (hl:ds.length=n) (hn:n<2^62) (h:p+k≤n):
  CallOK Tryz.prog 173 [.obj (rdr n ds p), .f (ai k)] (fun r o=>r=[.one (.d (.sl k ((ds.drop p).take k)))]∧o=[rdr n ds ((p+k:Nat):Int)]):=by
 refine zh Tryz.func173 Tryz.results173 Tryz.ntmps173 Tryz.call173 ?_
 simp only[Tryz.f173,Option.getD]
 have h1:decide ((p:Int)<0)=false:=by simp
 have h2:decide ((p:Int)>(n:Int))=false:=by simp;omega
 have h3:IntKind.i64.wrap ((n:Int) - (p:Int))=(n:Int) - p:=wrap64 (by omega) (by omega)
 have h4:decide ((n:Int) - (p:Int)<(k:Int))=false:=by simp;omega
 have h5:IntKind.i64.wrap ((p:Int)+(k:Int))=((p+k:Nat):Int):=by rw[wrap64 (by omega) (by omega)];omega
 have h6:p+k - p=k:=by omega
 repeat'(first|exact zC|refine zq (I h1 (I h2 (I h3 (I h4 (I h5 (I h6 (I @Int.toNat_natCast hl))))))) ?_|(apply zaa<;>intro hb)|(apply I;exact zI)|(apply I<;>intro hg))
def zbV (n:Nat) (p k:Int):Bool:=decide (p<0)||decide (p>(n:Int))||decide ((n:Int) - p<k)
theorem zgG (n:Nat) (ds:List D) (p k:Int) (hl:ds.length=n) (hn:n<2^62) (hp:i64 p) (h:zbV n p k=true):
  zbj Tryz.prog 173 [.obj (rdr n ds p), .f (ai k)] (zdW 206 2):=by
 refine zhy Tryz.func173 Tryz.ntmps173 Tryz.call173 ?_
 simp only[Tryz.f173,Option.getD]
 unfold zbV at h
 cases h1:decide (p<0)
 ·cases h2:decide (p>(n:Int))
  ·have h4:decide ((n:Int) - p<k)=true:=by rw[h1,h2]at h;simpa using h
   have h3:IntKind.i64.wrap ((n:Int) - p)=(n:Int) - p:=by
    simp at h1 h2
    exact wrap64 (by omega) (by omega)
   repeat'(first|exact zC|refine zq (I h1 (I h2 (I h3 (I h4 (I @zab hl))))) ?_|(apply zaa<;>intro hb)|(apply I;exact zI)|(apply I<;>intro hg))
  ·repeat'(first|exact zC|refine zq (I h1 (I h2 (I @zab hl))) ?_|(apply zaa<;>intro hb)|(apply I;exact zI)|(apply I<;>intro hg))
 ·repeat'(first|exact zC|refine zq (I h1 (I @zab hl)) ?_|(apply zaa<;>intro hb)|(apply I;exact zI)|(apply I<;>intro hg))
end Go.Proofs.YtliimajkpggbhaaGreat
