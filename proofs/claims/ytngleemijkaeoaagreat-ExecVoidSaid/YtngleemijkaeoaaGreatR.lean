import Derived.Test.YtngleemijkaeoaaGreatU
namespace Go.Proofs.YtngleemijkaeoaaGreat
open Go.Pk
set_option maxRecDepth 100000
set_option linter.unusedSimpArgs false
set_option linter.unusedVariables false
def zcx (r:Reply):Prop:=r.held.length<2^30∧∀g∈r.held,g.name.size<2^62
theorem zgN (r:Reply) (hr:zcx r):CallOK Tryz.prog 127 [.f (.agg r.lent)] (fun x o=>x=[rb (zcD r)]∧o=[]):=by
 refine zac zaq mixed (T:=Ty) (n:=87) Tryz.func127 (c:=Tryz.f127.body.getD .skip) rfl Tryz.results127 Tryz.ntmps127 Tryz.call127 ?_
 simp only[Tryz.f127,Option.getD]
 obtain⟨h1,h2⟩:=hr
 cases hA:(decide (r.code<0)||decide (r.code>12)||decide (r.session<0)||decide (r.session>2305843009213693952)||decide (r.ahead<0)||decide (r.ahead>3))
 ·cases hB:(decide ((r.held.length:Int)>4)||(r.session==0)&&decide ((r.held.length:Int)>0))
  ·have hs:zcD r=zbT (zcp r.held) 0 r.held:=by
    unfold zcD
    rw[show(decide (r.code<0)||decide (r.code>12)||decide (r.session<0)||decide (r.session>zaS)||decide (r.ahead<0)||decide (r.ahead>3))=false from hA,hB]
    rfl
   rw[hs]
   repeat'(first|refine zq (I hA hB) ?_|exact zd (I hA hB)|(refine zaa ?_ ?_<;>intro hb)|(refine And.intro ?_ ?_;exact zI)|(refine And.intro ?_ ?_<;>intro hg)|exact zC|fail)
   refine zas (τ:=Nat) (fun i=>⟨[dd, .one (.ptr ⟨1,0,1⟩ 0),dd,dd,dd,dd,dd,dd,dd,dd,dd,dd,dd,dd,dd,dd,dd,dd,dd,dd,dd,dd,dd,dd,dd,dd,dd,dd,dd,dd,dd,dd,dd,dd,dd,dd,dd,dd,dd,dd,dd,dd,dd,dd,dd,dd,dd,dd,dd,al r.held.length (zaF r.held),ai r.held.length,ai i,dd,dd,dd,dd,dd,dd,dd,dd,dd,dd,dd,dd,dd,dd,dd,dd,dd,dd,dd,dd,dd,dd,dd,dd,dd,dd,dd,dd,dd,dd,dd,dd,dd,dd,dd],[(1,{next:=2,l:=[some {e:=1,var:=true,fz:=false,sz:=0,cells:=[di r.code,di r.session,di r.ahead, .lent r.held.length (zaF r.held)]},none,none,none,none]}),(4,⟨2,[]⟩)]⟩)
    (fun i=>i≤r.held.length) (fun i=>zbT (zcp r.held) i (r.held.drop i)) (fun i=>r.held.length - i) 0
    (Gh.canon [1] [4] [] zK rfl rfl) (Nat.zero_le _) ?_
   intro i hi0 hF K hK
   rw[List.drop_zero]at hF
   refine zw ?_
   refine zaa (fun hlt=> ?_) (fun hge=> ?_)
   ·have hi:i<r.held.length:=by simpa using hlt
    have hat:=zcE hi
    have hw:=zar hi (by omega)
    rw[zcr hi]at hF
    have hnm:=zkO r.held[i].name (h2 _ (List.getElem_mem hi))
    cases e0:decide ((i:Int)>0)
    ·have h0:i=0:=by simpa using e0
     have hq:zcp r.held i r.held[i]= !(!nameP r.held[i].name||decide (r.held[i].token<1)||decide (r.held[i].token>2305843009213693952)):=by
      unfold zcp
      have:decide (i>0)=false:=by simpa using e0
      rw[this,Bool.false_and,Bool.or_false]
     have hp:(zaF r.held).drop ((IntKind.i64.wrap ((i:Int) - 1)).toNat*2)=r.held[i].enc++zaF (r.held.drop (i+1)):=by
      rw[←zcE hi,h0];rfl
     repeat'(first|refine zq (I hat (I hp (I e0 (I @zaU zca)))) ?_|exact zd (I hat (I hp (I e0 (I @zaU zca))))|refine zc (hnm) ?_|refine zg (hnm) ?_|(refine zaa ?_ ?_<;>intro hb)|(refine And.intro ?_ ?_;exact zI)|(refine And.intro ?_ ?_<;>intro hg)|exact zC|fail)
     ·rw[hq,hb,if_neg (by simp)]at hF
      rw[←hF]
     ·exact hK _ (i+1) (Gh.canon [1] [] [] (zk hw) rfl rfl) hi (by rw[zcr hi,hq,hb];rfl) (by omega)
    ·have h0:0<i:=by simpa using e0
     have hq:zcp r.held i r.held[i]= !(!nameP r.held[i].name||decide (r.held[i].token<1)||decide (r.held[i].token>2305843009213693952)|| !(zdg (r.held[i - 1]'(by omega)).name r.held[i].name)):=by
      unfold zcp zoZ
      have:decide (i>0)=true:=by simpa using e0
      rw[this,List.getElem?_eq_getElem (by omega)]
      simp only[Bool.true_and,Option.map_some,Option.getD_some]
     have hp:=zcE (show i - 1<r.held.length by omega)
     have hw1:IntKind.i64.wrap ((i:Int) - 1)=((i - 1:Nat):Int):=by rw[wrap64 (by omega) (by omega)];omega
     repeat'(first|refine zq (I hat (I hp (I hw1 (I e0 (I @zaU zca))))) ?_|exact zd (I hat (I hp (I hw1 (I e0 (I @zaU zca)))))|refine zc (hnm) ?_|refine zg (hnm) ?_|(refine zaa ?_ ?_<;>intro hb)|(refine And.intro ?_ ?_;exact zI)|(refine And.intro ?_ ?_<;>intro hg)|exact zC|fail)
     ·rw[hq,hb,if_neg (by simp)]at hF
      rw[←hF]
     ·exact hK _ (i+1) (Gh.canon [1] [] [] (zk hw) rfl rfl) hi (by rw[zcr hi,hq,hb];rfl) (by omega)
   ·have hi:i=r.held.length:=by
     have:¬(i:Int)<r.held.length:=by simpa using hge
     omega
    rw[zhb hi]at hF
    rw[←hF]
    repeat'(first|refine zq0 ?_|exact zd0|(refine zaa ?_ ?_<;>intro hb)|(refine And.intro ?_ ?_;exact zI)|(refine And.intro ?_ ?_<;>intro hg)|exact zC|fail)
  ·have hs:zcD r=false:=by
    unfold zcD
    rw[hB,Bool.not_true,Bool.and_false,Bool.false_and]
   rw[hs]
   repeat'(first|refine zq (I hA hB) ?_|exact zd (I hA hB)|(refine zaa ?_ ?_<;>intro hb)|(refine And.intro ?_ ?_;exact zI)|(refine And.intro ?_ ?_<;>intro hg)|exact zC|fail)
 ·have hs:zcD r=false:=by
   unfold zcD
   rw[show(decide (r.code<0)||decide (r.code>12)||decide (r.session<0)||decide (r.session>zaS)||decide (r.ahead<0)||decide (r.ahead>3))=true from hA]
   rfl
  rw[hs]
  repeat'(first|refine zq hA ?_|exact zd hA|(refine zaa ?_ ?_<;>intro hb)|(refine And.intro ?_ ?_;exact zI)|(refine And.intro ?_ ?_<;>intro hg)|exact zC|fail)
theorem zjX (m:Memo) (hr:zcx m.reply):CallOK Tryz.prog 87 [.f (.agg m.lent)] (fun x o=>x=[rb (answerB m)]∧o=[]):=by
 refine zac zaq mixed (T:=Ty) (n:=26) Tryz.func87 (c:=Tryz.f87.body.getD .skip) rfl Tryz.results87 Tryz.ntmps87 Tryz.call87 ?_
 simp only[Tryz.f87,Option.getD]
 repeat'(first|refine zq0 ?_|exact zd0|refine zc (zgN m.reply hr) ?_|refine zg (zgN m.reply hr) ?_|(refine zaa ?_ ?_<;>intro hb)|(refine And.intro ?_ ?_;exact zI)|(refine And.intro ?_ ?_<;>intro hg)|exact zC|fail)
 rfl
theorem zmv (x:Memo) (c:Int):CallOK Tryz.prog 111 [.f (zqh x), .f (ai c)] (fun r o=>r=[ri (zk2 x.client c)]∧o=[]):=by
 refine zac zaq mixed (T:=Ty) (n:=9) Tryz.func111 (c:=Tryz.f111.body.getD .skip) rfl Tryz.results111 Tryz.ntmps111 Tryz.call111 ?_
 simp only[Tryz.f111,Option.getD]
 repeat'(first|refine zq0 ?_|exact zd0|refine zc (zdw x.client c) ?_|refine zg (zdw x.client c) ?_|(refine zaa ?_ ?_<;>intro hb)|(refine And.intro ?_ ?_;exact zI)|(refine And.intro ?_ ?_<;>intro hg)|exact zC|fail)
theorem zgO (l:List Memo) (hs:SM l) (hl:l.length<2^62) (c:Int):CallOK Tryz.prog 69 [.f (al l.length (zaw l)), .f (ai c)] (fun r o=>r=[ri (zfl l c),rb (zbb l c).isSome]∧o=[]):=by
 refine zac zaq mixed (T:=Ty) (n:=11) Tryz.func69 (c:=Tryz.f69.body.getD .skip) rfl Tryz.results69 Tryz.ntmps69 Tryz.call69 ?_
 simp only[Tryz.f69,Option.getD]
 have h:=zi4 l hl c (fun x=>zk2 x.client c) 111 (zfl l c) zb9
  (fun j hj h=>by have:=zfq hj h;simp at this;exact zix.2 this)
  (fun j hj h=>by have:=zfr hj (zkt hs c) h;simp at this;have h2:= @zix l[j].client c;omega) (fun x _=>zmv x c)
 have e:((l[zfl l c]?.map fun x=>zk2 x.client c==0).getD false)=(zbb l c).isSome:=by
  rw[ziW hs,ziy]
  simp only[zj0]
 rw[e]at h
 repeat'(first|refine zq0 ?_|exact zd0|refine zc (h) ?_|refine zg (h) ?_|(refine zaa ?_ ?_<;>intro hb)|(refine And.intro ?_ ?_;exact zI)|(refine And.intro ?_ ?_<;>intro hg)|exact zC|fail)
theorem zmw (l:List Memo) (hl:l.length<2^30) (hll:∀m∈l,m.reply.held.length<2^30):CallOK Tryz.prog 86 [.f (al l.length (zaw l))] (fun r o=>r=[.one (.own 6 l.length (zaw l) false)]∧o=[]):=by
 refine zac zaq mixed (T:=Ty) (n:=26) Tryz.func86 (c:=Tryz.f86.body.getD .skip) rfl Tryz.results86 Tryz.ntmps86 Tryz.call86 ?_
 simp only[Tryz.f86,Option.getD]
 have hcn:=zft l.length (zaw l) zan (by omega)
 repeat'(first|refine zq @zan ?_|exact zd @zan|refine zc (hcn) ?_|refine zg (hcn) ?_|(refine zaa ?_ ?_<;>intro hb)|(refine And.intro ?_ ?_;exact zI)|(refine And.intro ?_ ?_<;>intro hg)|exact zC|fail)
 refine zas (τ:=Nat) (fun i=>⟨[dd,dd,dd, .one (.own ⟨3,1,1⟩ 0 l.length),dd,dd,dd,dd,ai l.length,ai i,dd,dd,dd,dd,dd,dd,dd,dd,dd,dd,dd,dd,dd,dd,dd,dd],[(6,⟨2,[]⟩),(3,{next:=2,l:=[none,some {e:=1,var:=false,fz:=false,sz:=6,cells:=(zaw l).map C.d}]}),(20,⟨2,[]⟩)]⟩)
  (fun i=>i≤l.length) (fun _=>()) (fun i=>l.length - i) 0
  (Gh.canon [3] [20] [] zK rfl rfl) (Nat.zero_le _) ?_
 intro i hi0 hF K hK
 refine zw ?_
 refine zaa (fun hlt=> ?_) (fun hge=> ?_)
 ·have hi:i<l.length:=by simpa using hlt
  have hat:=zb0 hi
  have hat2:(zaw l).drop (i*6+2+3)= .sl l[i].reply.held.length (zaF l[i].reply.held)::zaw (l.drop (i+1)):=by rw[Nat.add_assoc,←List.drop_drop,hat];rfl
  have hw:=zar hi (by omega)
  have hci:=zcR l[i].reply.held.length (zaF l[i].reply.held) zaU (by have:=hll _ (List.getElem_mem hi);omega)
  have hset:=zbL Memo.enc 6 (fun _=>rfl) hi (k:=5) (by decide) (.sl l[i].reply.held.length (zaF l[i].reply.held)) l[i] rfl
  rw[List.set_getElem_self,show i*6+5=i*6+2+3 from rfl]at hset
  repeat'(first|refine zq (I hat2 (I hset (I @zmd (I @List.map_cons.{0,0} @zan)))) ?_|exact zd (I hat2 (I hset (I @zmd (I @List.map_cons.{0,0} @zan))))|refine zc (hci) ?_|refine zg (hci) ?_|(refine zaa ?_ ?_<;>intro hb)|(refine And.intro ?_ ?_;exact zI)|(refine And.intro ?_ ?_<;>intro hg)|exact zC|fail)
  exact hK _ (i+1) (Gh.canon [3] [] [] (zk hw) rfl rfl) hi rfl (by omega)
 ·have hi:i=l.length:=by
   have:¬(i:Int)<l.length:=by simpa using hge
   omega
  repeat'(first|refine zq0 ?_|exact zd0|(refine zaa ?_ ?_<;>intro hb)|(refine And.intro ?_ ?_;exact zI)|(refine And.intro ?_ ?_<;>intro hg)|exact zC|fail)
theorem ziv (l:List Memo) (hs:SM l) (hl:l.length<2^30) (c q:Int):CallOK Tryz.prog 37 [.f (al l.length (zaw l)), .f (ai c), .f (ai q)] (fun r o=>r=[ri (za8 l c q)]∧o=[]):=by
 refine zac zaq mixed (T:=Ty) (n:=35) Tryz.func37 (c:=Tryz.f37.body.getD .skip) rfl Tryz.results37 Tryz.ntmps37 Tryz.call37 ?_
 simp only[Tryz.f37,Option.getD]
 have hp:=zgO l hs (by omega) c
 cases hf:zbb l c with
 |none=>
  rw[hf]at hp
  simp only[Option.isSome_none]at hp
  have hd:(zaw l).drop (zfl l c*6)=[]∨∃x q,(zaw l).drop (zfl l c*6)=Memo.enc x++q:=by
   rcases Nat.lt_or_ge (zfl l c) l.length with h|h
   ·exact .inr ⟨_,_,zb0 h⟩
   ·exact .inl (List.drop_of_length_le (by rw[zan];omega))
  have hfr:za8 l c q=1:=by unfold za8;rw[hf]
  rw[hfr]
  rcases hd with hat|⟨x,q,hat⟩
  ·repeat'(first|refine zq (I hat (I @List.drop_nil.{0} @zan)) ?_|exact zd (I hat (I @List.drop_nil.{0} @zan))|refine zc (hp) ?_|refine zg (hp) ?_|(refine zaa ?_ ?_<;>intro hb)|(refine And.intro ?_ ?_;exact zI)|(refine And.intro ?_ ?_<;>intro hg)|exact zC|fail)
  ·repeat'(first|refine zq (I hat (I @zan zca)) ?_|exact zd (I hat (I @zan zca))|refine zc (hp) ?_|refine zg (hp) ?_|(refine zaa ?_ ?_<;>intro hb)|(refine And.intro ?_ ?_;exact zI)|(refine And.intro ?_ ?_<;>intro hg)|exact zC|fail)
 |some x=>
  rw[hf]at hp
  simp only[Option.isSome_some]at hp
  obtain⟨⟨hi,he⟩,hc⟩:=zfT hs hf
  have hat:=zb0 hi
  rw[he]at hat
  have hfr:za8 l c q=if x.seq<q then 1 else if x.seq=q then 0 else -1:=by unfold za8;rw[hf]
  rw[hfr]
  repeat'(first|refine zq (I hat (I @zan zca)) ?_|exact zd (I hat (I @zan zca))|refine zc (hp) ?_|refine zg (hp) ?_|(refine zaa ?_ ?_<;>intro hb)|(refine And.intro ?_ ?_;exact zI)|(refine And.intro ?_ ?_<;>intro hg)|exact zC|fail)
  ·rw[if_pos (by simpa using hb)]
  ·rename_i h1
   rw[if_neg (by simpa using h1),if_pos (by simpa using hb)]
  ·rename_i h1
   rw[if_neg (by simpa using h1),if_neg (by simpa using hb)]
def zcl:Memo:=⟨0,0,⟨0,0,0,[]⟩⟩
theorem zrU (l:List Memo) (hs:SM l) (hl:l.length<2^30) (hll:∀m∈l,m.reply.held.length<2^30) (c:Int):CallOK Tryz.prog 44 [.f (al l.length (zaw l)), .f (ai c)]
  (fun r o=>r=[.agg [.d (iD ((zbb l c).getD zcl).client), .d (iD ((zbb l c).getD zcl).seq), .d (iD ((zbb l c).getD zcl).reply.code), .d (iD ((zbb l c).getD zcl).reply.session), .d (iD ((zbb l c).getD zcl).reply.ahead), .own 2 ((zbb l c).getD zcl).reply.held.length (zaF ((zbb l c).getD zcl).reply.held) false],rb (zbb l c).isSome]∧o=[]):=by
 refine CallOK.nil ?_
 refine zac zaq mixed (T:=Ty) (n:=29) Tryz.func44 (c:=Tryz.f44.body.getD .skip) rfl Tryz.results44 Tryz.ntmps44 Tryz.call44 ?_
 simp only[Tryz.f44,Option.getD]
 have hp:=zgO l hs (by omega) c
 cases hf:zbb l c with
 |none=>
  rw[hf]at hp
  simp only[Option.isSome_none]at hp
  repeat'(first|refine zq @zan ?_|exact zd @zan|refine zc (hp) ?_|refine zg (hp) ?_|(refine zaa ?_ ?_<;>intro hb)|(refine And.intro ?_ ?_;exact zI)|(refine And.intro ?_ ?_<;>intro hg)|exact zC|fail)
  simp[zbe,zdd,zbn,zaV,zcl]
 |some x=>
  rw[hf]at hp
  simp only[Option.isSome_some]at hp
  obtain⟨⟨hi,he⟩,hc⟩:=zfT hs hf
  have hat:=zb0 hi
  rw[he]at hat
  have hci:=zcR x.reply.held.length (zaF x.reply.held) zaU (by have:=hll x (he▸List.getElem_mem hi);omega)
  repeat'(first|refine zq (I hat (I @zan zca)) ?_|exact zd (I hat (I @zan zca))|refine zc (hp) ?_|refine zg (hp) ?_|refine zc (hci) ?_|refine zg (hci) ?_|(refine zaa ?_ ?_<;>intro hb)|(refine And.intro ?_ ?_;exact zI)|(refine And.intro ?_ ?_<;>intro hg)|exact zC|fail)
  simp[zbe,zdd,zbn,zaV]
set_option maxHeartbeats 2000000 in
theorem zrV (l:List Memo) (hs:SM l) (hl:l.length<2^30) (hll:∀m∈l,m.reply.held.length<2^30) (a:Memo) (ha:zcx a.reply):CallOK Tryz.prog 46 [.f (al l.length (zaw l)), .f (.agg a.lent)]
  (fun r o=>r=[.one (.own 6 (zdf l a).length (zaw (zdf l a)) false)]∧o=[]):=by
 refine zac zaq mixed (T:=Ty) (n:=55) Tryz.func46 (c:=Tryz.f46.body.getD .skip) rfl Tryz.results46 Tryz.ntmps46 Tryz.call46 ?_
 simp only[Tryz.f46,Option.getD]
 have hcp:=zmw l hl hll
 have hma:=zjX a ha
 have hfr:=ziv l hs hl a.client a.seq
 have hp:=zgO l hs (by omega) a.client
 have hci:=zcR a.reply.held.length (zaF a.reply.held) zaU (by have:=ha.1;omega)
 cases hA:answerB a
 ·have hk:zdf l a=l:=by unfold zdf;rw[hA];rfl
  rw[hk]
  rw[hA]at hma
  repeat'(first|refine zq @zan ?_|exact zd @zan|refine zc (hcp) ?_|refine zg (hcp) ?_|refine zc (hma) ?_|refine zg (hma) ?_|refine zc (hfr) ?_|refine zg (hfr) ?_|(refine zaa ?_ ?_<;>intro hb)|(refine And.intro ?_ ?_;exact zI)|(refine And.intro ?_ ?_<;>intro hg)|exact zC|fail)
 ·rw[hA]at hma
  cases hB:za8 l a.client a.seq !=1
  ·have hk:zdf l a=if(zbb l a.client).isSome=true then l.set (zfl l a.client) a else l.take (zfl l a.client)++a::l.drop (zfl l a.client):=by unfold zdf;rw[hA,hB];rfl
   rw[hk]
   cases hf:(zbb l a.client).isSome
   ·rw[hf]at hp
    rw[if_neg (by simp)]
    have hin:=zl8 l.length (zfl l a.client) (zaw l) a.enc zan rfl zb9 hl
    have hti:=zkv Memo.enc 6 (fun _=>rfl) (l:=l) (k:=zfl l a.client) zb9 a
    have htl:=zhY (l:=l) (k:=zfl l a.client) zb9 a
    simp only[htl,hti]
    repeat'(first|refine zq (I @zan hB) ?_|exact zd (I @zan hB)|refine zc (hcp) ?_|refine zg (hcp) ?_|refine zc (hma) ?_|refine zg (hma) ?_|refine zc (hfr) ?_|refine zg (hfr) ?_|refine zc (hci) ?_|refine zg (hci) ?_|refine zc (hp) ?_|refine zg (hp) ?_|(refine zaa ?_ ?_<;>intro hb)|(refine And.intro ?_ ?_;exact zI)|(refine And.intro ?_ ?_<;>intro hg)|exact zC|fail)
    refine zbH (mv:= ?mv1) (lent:= ?le1) 0 ?ha1 (hin) ?hb1 ?hc1
    case ha1=>(try simp only[zB,zaD,Nat.reduceSub,Nat.reduceEqDiff,Nat.reduceAdd,Nat.reduceMul,Nat.reduceLeDiff,Nat.reduceLT,Nat.reduceBEq,reduceCtorEq]);exact rfl
    case hb1=>(try simp only[zB,scM,Nat.reduceSub,Nat.reduceEqDiff,Nat.reduceAdd,Nat.reduceMul,Nat.reduceLeDiff,Nat.reduceLT,Nat.reduceBEq,reduceCtorEq]);repeat'(first|rfl|trivial|omega|with_reducible refine And.intro ?_ ?_)
    show aops _ _ _ _ _ _ _ _
    repeat'(first|refine zq0 ?_|exact zd0|(refine zaa ?_ ?_<;>intro hb)|(refine And.intro ?_ ?_;exact zI)|(refine And.intro ?_ ?_<;>intro hg)|exact zC|fail)
   ·rw[hf]at hp
    rw[if_pos rfl]
    obtain⟨x,hx⟩:=Option.isSome_iff_exists.1 hf
    obtain⟨⟨hi,he⟩,hc⟩:=zfT hs hx
    have hset:=zd9 Memo.enc 6 (fun _=>rfl) hi a
    simp only[fillAt,List.map_cons,List.map_nil]at hset
    repeat'(first|refine zq (I @zan (I hB hset)) ?_|exact zd (I @zan (I hB hset))|refine zc (hcp) ?_|refine zg (hcp) ?_|refine zc (hma) ?_|refine zg (hma) ?_|refine zc (hfr) ?_|refine zg (hfr) ?_|refine zc (hci) ?_|refine zg (hci) ?_|refine zc (hp) ?_|refine zg (hp) ?_|(refine zaa ?_ ?_<;>intro hb)|(refine And.intro ?_ ?_;exact zI)|(refine And.intro ?_ ?_<;>intro hg)|exact zC|fail)
    rw[List.length_set]
  ·have hk:zdf l a=l:=by unfold zdf;rw[hB,Bool.or_true];rfl
   rw[hk]
   repeat'(first|refine zq (I @zan hB) ?_|exact zd (I @zan hB)|refine zc (hcp) ?_|refine zg (hcp) ?_|refine zc (hma) ?_|refine zg (hma) ?_|refine zc (hfr) ?_|refine zg (hfr) ?_|(refine zaa ?_ ?_<;>intro hb)|(refine And.intro ?_ ?_;exact zI)|(refine And.intro ?_ ?_<;>intro hg)|exact zC|fail)
abbrev stE (s:St):List D:=[iD s.time,iD s.num,iD s.token, .sl s.sess.length (zaI s.sess), .sl s.locks.length (zaf s.locks), .sl s.memos.length (zaw s.memos)]
abbrev zmT (s:St):RF:= .agg ((stE s).map RO.d)
abbrev zey (a:Reply):RF:= .agg [.d (iD a.code), .d (iD a.session), .d (iD a.ahead), .own 2 a.held.length (zaF a.held) false]
structure Small (s:St):Prop where
 sess:s.sess.length<2^30
 locks:s.locks.length<2^30
 memos:s.memos.length<2^30
 line:∀k∈s.locks,k.line.length<2^30∧k.name.size<2^62
 held:∀m∈s.memos,zcx m.reply
set_option maxHeartbeats 1000000 in
theorem ziS (s:St) (h:Small s):CallOK Tryz.prog 38 [.f (.agg s.lent)] (fun r o=>r=[s.rf]∧o=[]):=by
 refine zac zaq mixed (T:=Ty) (n:=58) Tryz.func38 (c:=Tryz.f38.body.getD .skip) rfl Tryz.results38 Tryz.ntmps38 Tryz.call38 ?_
 simp only[Tryz.f38,Option.getD]
 have hcs:=zea s.sess.length (zaI s.sess) zai (by have:=h.sess;omega)
 have hcl:=zfs s.locks.length (zaf s.locks) zad (by have:=h.locks;omega)
 have hcm:=zft s.memos.length (zaw s.memos) zan (by have:=h.memos;omega)
 repeat'(first|refine zq0 ?_|exact zd0|refine zc (hcs) ?_|refine zg (hcs) ?_|refine zc (hcl) ?_|refine zg (hcl) ?_|refine zc (hcm) ?_|refine zg (hcm) ?_|(refine zaa ?_ ?_<;>intro hb)|(refine And.intro ?_ ?_;exact zI)|(refine And.intro ?_ ?_<;>intro hg)|exact zC|fail)
 refine zas (τ:=Nat) (fun i=>⟨[dd, .one (.ptr ⟨1,0,1⟩ 0), .one (.ptr ⟨2,0,1⟩ 0),dd,dd,dd,dd,dd,dd,dd,dd,dd,dd,dd,dd,ai s.locks.length,ai i,dd,dd,dd,dd,dd,dd,dd,dd,dd,dd,dd,dd,dd,dd,dd,dd,dd,dd,dd,dd,dd,dd,dd,dd,dd,dd,dd,dd,dd,dd,dd,dd,dd,dd,dd,dd,dd,dd,dd,dd,dd],[(1,{next:=2,l:=[some {e:=1,var:=true,fz:=false,sz:=0,cells:=[di s.time,di s.num,di s.token, .own ⟨1,4,1⟩ 0 s.sess.length, .own ⟨1,5,1⟩ 0 s.locks.length, .lent s.memos.length (zaw s.memos)]},none,none,none,some {e:=1,var:=false,fz:=false,sz:=3,cells:=(zaI s.sess).map C.d},some {e:=1,var:=false,fz:=false,sz:=4,cells:=(zaf s.locks).map C.d},none]}),(2,{next:=2,l:=[some {e:=1,var:=true,fz:=false,sz:=0,cells:=[di 0,di 0,di 0, .d (.v (.slice none 0 0)), .d (.v (.slice none 0 0)), .d (.v (.slice none 0 0))]},none,none,none,none,none,none]}),(7,⟨2,[]⟩),(11,⟨2,[]⟩),(28,⟨2,[]⟩)]⟩)
  (fun i=>i≤s.locks.length) (fun _=>()) (fun i=>s.locks.length - i) 0
  (Gh.canon [1,2] [28] [] zK rfl rfl) (Nat.zero_le _) ?_
 intro i hi0 hF K hK
 refine zw ?_
 refine zaa (fun hlt=> ?_) (fun hge=> ?_)
 ·have hi:i<s.locks.length:=by simpa using hlt
  have hat:=zaT hi
  have hat2:(zaf s.locks).drop (i*4+3)= .sl s.locks[i].line.length (zau s.locks[i].line)::zaf (s.locks.drop (i+1)):=by rw[←List.drop_drop,hat];rfl
  have hw:=zar hi (by have:=h.locks;omega)
  have hci:=zcQ s.locks[i].line.length (zau s.locks[i].line) zah (by have:=(h.line _ (List.getElem_mem hi)).1;omega)
  have hset:=zbL Lk.enc 4 (fun _=>rfl) hi (k:=3) (by decide) (.sl s.locks[i].line.length (zau s.locks[i].line)) s.locks[i] rfl
  rw[List.set_getElem_self]at hset
  repeat'(first|refine zq (I hat2 (I hset (I @zmd (I @List.map_cons.{0,0} @zad)))) ?_|exact zd (I hat2 (I hset (I @zmd (I @List.map_cons.{0,0} @zad))))|refine zc (hci) ?_|refine zg (hci) ?_|(refine zaa ?_ ?_<;>intro hb)|(refine And.intro ?_ ?_;exact zI)|(refine And.intro ?_ ?_<;>intro hg)|exact zC|fail)
  exact hK _ (i+1) (Gh.canon [1,2] [] [] (zk hw) rfl rfl) hi rfl (by omega)
 ·have hi:i=s.locks.length:=by
   have:¬(i:Int)<s.locks.length:=by simpa using hge
   omega
  repeat'(first|refine zq0 ?_|exact zd0|refine zc (hcm) ?_|refine zg (hcm) ?_|(refine zaa ?_ ?_<;>intro hb)|(refine And.intro ?_ ?_;exact zI)|(refine And.intro ?_ ?_<;>intro hg)|exact zC|fail)
  refine zas (τ:=Nat) (fun i=>⟨[dd, .one (.ptr ⟨1,0,1⟩ 0), .one (.ptr ⟨2,0,1⟩ 0),dd,dd,dd,dd,dd,dd,dd,dd,dd,dd,dd,dd,dd,dd,dd,dd,dd,dd,dd,dd,dd,dd,dd,dd,dd,dd,dd,dd,dd,dd,dd,dd,dd,dd,dd,ai s.memos.length,ai i,dd,dd,dd,dd,dd,dd,dd,dd,dd,dd,dd,dd,dd,dd,dd,dd,dd,dd],[(1,{next:=2,l:=[some {e:=1,var:=true,fz:=false,sz:=0,cells:=[di s.time,di s.num,di s.token, .own ⟨1,4,1⟩ 0 s.sess.length, .own ⟨1,5,1⟩ 0 s.locks.length, .own ⟨1,6,1⟩ 0 s.memos.length]},none,none,none,some {e:=1,var:=false,fz:=false,sz:=3,cells:=(zaI s.sess).map C.d},some {e:=1,var:=false,fz:=false,sz:=4,cells:=(zaf s.locks).map C.d},some {e:=1,var:=false,fz:=false,sz:=6,cells:=(zaw s.memos).map C.d}]}),(2,{next:=2,l:=[some {e:=1,var:=true,fz:=false,sz:=0,cells:=[di 0,di 0,di 0, .d (.v (.slice none 0 0)), .d (.v (.slice none 0 0)), .d (.v (.slice none 0 0))]},none,none,none,none,none,none]}),(7,⟨2,[]⟩),(11,⟨2,[]⟩),(28,⟨2,[]⟩),(34,⟨2,[]⟩),(52,⟨2,[]⟩)]⟩)
   (fun i=>i≤s.memos.length) (fun _=>()) (fun i=>s.memos.length - i) 0
   (Gh.canon [1,2] [52] [] zK rfl rfl) (Nat.zero_le _) ?_
  intro i hi0 hF K hK
  refine zw ?_
  refine zaa (fun hlt=> ?_) (fun hge=> ?_)
  ·have hi:i<s.memos.length:=by simpa using hlt
   have hat:=zb0 hi
   have hat2:(zaw s.memos).drop (i*6+2+3)= .sl s.memos[i].reply.held.length (zaF s.memos[i].reply.held)::zaw (s.memos.drop (i+1)):=by rw[Nat.add_assoc,←List.drop_drop,hat];rfl
   have hw:=zar hi (by have:=h.memos;omega)
   have hci:=zcR s.memos[i].reply.held.length (zaF s.memos[i].reply.held) zaU (by have:=(h.held _ (List.getElem_mem hi)).1;omega)
   have hset:=zbL Memo.enc 6 (fun _=>rfl) hi (k:=5) (by decide) (.sl s.memos[i].reply.held.length (zaF s.memos[i].reply.held)) s.memos[i] rfl
   rw[List.set_getElem_self,show i*6+5=i*6+2+3 from rfl]at hset
   repeat'(first|refine zq (I hat2 (I hset (I @zmd (I @List.map_cons.{0,0} @zan)))) ?_|exact zd (I hat2 (I hset (I @zmd (I @List.map_cons.{0,0} @zan))))|refine zc (hci) ?_|refine zg (hci) ?_|(refine zaa ?_ ?_<;>intro hb)|(refine And.intro ?_ ?_;exact zI)|(refine And.intro ?_ ?_<;>intro hg)|exact zC|fail)
   exact hK _ (i+1) (Gh.canon [1,2] [] [] (zk hw) rfl rfl) hi rfl (by omega)
  ·have hi:i=s.memos.length:=by
    have:¬(i:Int)<s.memos.length:=by simpa using hge
    omega
   repeat'(first|refine zq0 ?_|exact zd0|(refine zaa ?_ ?_<;>intro hb)|(refine And.intro ?_ ?_;exact zI)|(refine And.intro ?_ ?_<;>intro hg)|exact zC|fail)
   rfl
theorem ziT (gone:List Int) (hg:gone.length<2^62) (x:Sess):CallOK Tryz.prog 77 [.f (zgo x), .f (.one (.eltR [.lent gone.length (zau gone)]))] (fun r o=>r=[rb (hasI gone x.client)]∧o=[]):=by
 refine zac zaq mixed (T:=Ty) (n:=8) Tryz.func77 (c:=Tryz.f77.body.getD .skip) rfl Tryz.results77 Tryz.ntmps77 Tryz.call77 ?_
 simp only[Tryz.f77,Option.getD]
 repeat'(first|refine zq0 ?_|exact zd0|refine zc (zbp gone hg x.client) ?_|refine zg (zbp gone hg x.client) ?_|(refine zaa ?_ ?_<;>intro hb)|(refine And.intro ?_ ?_;exact zI)|(refine And.intro ?_ ?_<;>intro hg)|exact zC|fail)
 rfl
abbrev zkp (l:List Sess) (gone:List Int):List Sess:=l.filter fun x=> !hasI gone x.client
theorem zg9 (s:St) (h:Small s) (ht:0≤s.token∧s.token≤zaS) (gone:List Int) (hg:gone.length<2^30):
  CallOK Tryz.prog 39 [.agr [di s.time,di s.num,di s.token] [.d (.sl s.locks.length (zaf s.locks)), .d (.sl s.memos.length (zaw s.memos))] 3 s.sess.length (zaI s.sess), .f (al gone.length (zau gone))]
  (fun r o=>r=[.agg [.d (iD s.time), .d (iD s.num), .d (iD (s.token+(zbX s.locks gone s.token).2)), .own 3 (zkp s.sess gone).length (zaI (zkp s.sess gone)) true,
   .own 4 (zbX s.locks gone s.token).1.length (zaf (zbX s.locks gone s.token).1) false, .d (.sl s.memos.length (zaw s.memos))]]∧o=[[]]):=by
 refine zac zaq mixed (T:=Ty) (n:=27) Tryz.func39 (c:=Tryz.f39.body.getD .skip) rfl Tryz.results39 Tryz.ntmps39 Tryz.call39 ?_
 simp only[Tryz.f39,Option.getD]
 have hH:zaS=2^61:=by decide
 have hdp:=zr1 s.locks h.locks (fun k hk=>(h.line k hk).1) gone hg s.token (by omega)
 have hdf:=zm6 s.sess (by have:=h.sess;omega) (fun x=>hasI gone x.client) 77 [.eltR [.lent gone.length (zau gone)]] (fun _=>rfl) (fun _=>rfl) (fun _ _=>rfl) (fun _=>rfl) (fun x _=>ziT gone (by omega) x)
 obtain⟨⟨g1,g2⟩,_⟩:=zcL gone s.token (s.locks.map (zam gone)) 0 (Int.le_refl _)
 have g1:0≤(zbX s.locks gone s.token).2:=g1
 have g2:(zbX s.locks gone s.token).2≤0+(s.locks.map (zam gone)).length:=g2
 rw[List.length_map]at g2
 have hw:IntKind.i64.wrap (s.token+(zbX s.locks gone s.token).2)=s.token+(zbX s.locks gone s.token).2:=wrap64 (by omega) (by have:=h.locks;omega)
 repeat'(first|refine zq hw ?_|exact zd hw|refine zc (hdp) ?_|refine zg (hdp) ?_|(refine zaa ?_ ?_<;>intro hb)|(refine And.intro ?_ ?_;exact zI)|(refine And.intro ?_ ?_<;>intro hg)|exact zC|fail)
 refine zbH (mv:= ?mv1) (lent:= ?le1) 0 ?ha1 (hdf) ?hb1 ?hc1
 case ha1=>(try simp only[zB,zaD,Nat.reduceSub,Nat.reduceEqDiff,Nat.reduceAdd,Nat.reduceMul,Nat.reduceLeDiff,Nat.reduceLT,Nat.reduceBEq,reduceCtorEq]);exact rfl
 case hb1=>(try simp only[zB,scM,Nat.reduceSub,Nat.reduceEqDiff,Nat.reduceAdd,Nat.reduceMul,Nat.reduceLeDiff,Nat.reduceLT,Nat.reduceBEq,reduceCtorEq]);repeat'(first|rfl|trivial|omega|with_reducible refine And.intro ?_ ?_)
 show aops _ _ _ _ _ _ _ _
 repeat'(first|refine zq0 ?_|exact zd0|(refine zaa ?_ ?_<;>intro hb)|(refine And.intro ?_ ?_;exact zI)|(refine And.intro ?_ ?_<;>intro hg)|exact zC|fail)
 rfl
theorem ziU {s:St} (h:Small s) (now lease:Int):(zhU s.sess now lease).length<2^30:=by
 unfold zhU
 split
 ·simp
 ·rw[List.length_map]
  exact Nat.lt_of_le_of_lt (List.length_filter_le ..) h.sess
set_option maxHeartbeats 1000000 in
theorem zlZ (s:St) (h:Small s) (hr:RightS s) (time lease:Int):CallOK Tryz.prog 13 [.f (.agg s.lent), .f (ai time), .f (ai lease)]
  (fun r o=>r=[zmT (zbi s time lease)]∧o=[]):=by
 refine CallOK.nil ?_
 refine zac zaq mixed (T:=Ty) (n:=28) Tryz.func13 (c:=Tryz.f13.body.getD .skip) rfl Tryz.results13 Tryz.ntmps13 Tryz.call13 ?_
 simp only[Tryz.f13,Option.getD]
 have hcp:=ziS s h
 have h':Small {s with time:=zbR s time}:=⟨h.sess,h.locks,h.memos,h.line,h.held⟩
 have hdu:=zsZ s.sess h.sess (zbR s time) (max lease 1) (fun x hx=>(zbP.1 (hr.sok x hx).1).2.2)
 have hwo:=zg9 {s with time:=zbR s time} h' hr.token (zhU s.sess (zbR s time) (max lease 1)) (ziU h _ _)
 cases ha:decide (time>s.time)&&decide (time≤2305843009213693952)
 ·have htp:zbR s time=s.time:=by unfold zbR;rw[show(decide (time>s.time)&&decide (time≤zaS))=false from ha];rfl
  rw[htp]at hdu hwo
  repeat'(first|(with_reducible first|refine zaW 4 ?_|refine zaJ 4 ?_|refine zaK 4 ?_)|refine zu ha ?_|exact zd ha|(with_reducible first|refine zab _ _ ?_)|refine zc (hcp) ?_|refine zg (hcp) ?_|(refine zaa ?_ ?_<;>intro hb)|(refine And.intro ?_ ?_;exact zI)|(refine And.intro ?_ ?_<;>intro hg)|exact zC|fail)
  refine za1 (zaX (Gh.sealF 3 4 (.own ⟨3,5,11⟩ 0 s.locks.length) ?_) ?_)
  ·exact zo0
  refine zf0 ?_
  refine zaX (Gh.sealF 3 5 (.own ⟨3,6,12⟩ 0 s.memos.length) ?_) ?_
  ·exact zo0
  refine zf0 ?_
  repeat'(first|(with_reducible first|refine zab _ _ ?_|refine zaM ?_|refine zaN ?_)|rw[zak]|simp only[zeB,zY,Int.reduceEq,Int.reduceBEq,Int.reduceBNe,Nat.reduceSub,Nat.reduceEqDiff,Nat.reduceAdd,Nat.reduceMul,Nat.reduceLeDiff,Nat.reduceLT,Nat.reduceBEq,reduceCtorEq]|((first|((try refine zaz ?_);apply zaC)|(apply zaB;intro _));(solve|exact(hdu)|(refine CallOK.le (hdu) ?_;exact zM)|fail);try case hn=>rfl)|refine zal ?_|refine zaa (fun hb=> ?_) (fun hb=> ?_)|(refine And.intro ?_ ?_;exact zI)|refine And.intro (fun hg=> ?_) (fun hg=> ?_)|exact zC|fail)
  refine zbH (mv:= ?mv2) (lent:= ?le2) 0 ?ha2 (hwo) ?hb2 ?hc2
  case ha2=>(try simp only[zaD,zY,List.contains_nil,Nat.reduceSub,Nat.reduceEqDiff,Nat.reduceAdd,Nat.reduceMul,Nat.reduceLeDiff,Nat.reduceLT,Nat.reduceBEq,reduceCtorEq]);exact rfl
  case hb2=>(try simp only[scM,zY,List.contains_nil,Nat.reduceSub,Nat.reduceEqDiff,Nat.reduceAdd,Nat.reduceMul,Nat.reduceLeDiff,Nat.reduceLT,Nat.reduceBEq,reduceCtorEq]);repeat'(first|rfl|trivial|omega|with_reducible refine And.intro ?_ ?_)
  show aops _ _ _ _ _ _ _ _
  repeat'(first|refine zq0 ?_|exact zd0|(refine zaa ?_ ?_<;>intro hb)|(refine And.intro ?_ ?_;exact zI)|(refine And.intro ?_ ?_<;>intro hg)|exact zC|fail)
  refine⟨rfl, ?_⟩
  have hav:zbi s time lease=za9 {s with time:=s.time} (zhU s.sess s.time (max lease 1)):=by unfold zbi;rw[htp]
  rw[hav]
  exact⟨⟨.inl rfl, .inl rfl, .inl rfl, .inr ⟨rfl,rfl,zai⟩, .inr ⟨rfl,rfl,zad⟩, .inl rfl,trivial⟩,trivial⟩
 ·have htp:zbR s time=time:=by unfold zbR;rw[show(decide (time>s.time)&&decide (time≤zaS))=true from ha];rfl
  rw[htp]at hdu hwo
  repeat'(first|(with_reducible first|refine zaW 4 ?_|refine zaJ 4 ?_|refine zaK 4 ?_)|refine zu ha ?_|exact zd ha|(with_reducible first|refine zab _ _ ?_)|refine zc (hcp) ?_|refine zg (hcp) ?_|(refine zaa ?_ ?_<;>intro hb)|(refine And.intro ?_ ?_;exact zI)|(refine And.intro ?_ ?_<;>intro hg)|exact zC|fail)
  refine za1 (zaX (Gh.sealF 3 4 (.own ⟨3,5,11⟩ 0 s.locks.length) ?_) ?_)
  ·exact zo0
  refine zf0 ?_
  refine zaX (Gh.sealF 3 5 (.own ⟨3,6,12⟩ 0 s.memos.length) ?_) ?_
  ·exact zo0
  refine zf0 ?_
  repeat'(first|(with_reducible first|refine zab _ _ ?_|refine zaM ?_|refine zaN ?_)|rw[zak]|simp only[zeB,zY,Int.reduceEq,Int.reduceBEq,Int.reduceBNe,Nat.reduceSub,Nat.reduceEqDiff,Nat.reduceAdd,Nat.reduceMul,Nat.reduceLeDiff,Nat.reduceLT,Nat.reduceBEq,reduceCtorEq]|((first|((try refine zaz ?_);apply zaC)|(apply zaB;intro _));(solve|exact(hdu)|(refine CallOK.le (hdu) ?_;exact zM)|fail);try case hn=>rfl)|refine zal ?_|refine zaa (fun hb=> ?_) (fun hb=> ?_)|(refine And.intro ?_ ?_;exact zI)|refine And.intro (fun hg=> ?_) (fun hg=> ?_)|exact zC|fail)
  refine zbH (mv:= ?mv3) (lent:= ?le3) 0 ?ha3 (hwo) ?hb3 ?hc3
  case ha3=>(try simp only[zaD,zY,List.contains_nil,Nat.reduceSub,Nat.reduceEqDiff,Nat.reduceAdd,Nat.reduceMul,Nat.reduceLeDiff,Nat.reduceLT,Nat.reduceBEq,reduceCtorEq]);exact rfl
  case hb3=>(try simp only[scM,zY,List.contains_nil,Nat.reduceSub,Nat.reduceEqDiff,Nat.reduceAdd,Nat.reduceMul,Nat.reduceLeDiff,Nat.reduceLT,Nat.reduceBEq,reduceCtorEq]);repeat'(first|rfl|trivial|omega|with_reducible refine And.intro ?_ ?_)
  show aops _ _ _ _ _ _ _ _
  repeat'(first|refine zq0 ?_|exact zd0|(refine zaa ?_ ?_<;>intro hb)|(refine And.intro ?_ ?_;exact zI)|(refine And.intro ?_ ?_<;>intro hg)|exact zC|fail)
  refine⟨rfl, ?_⟩
  have hav:zbi s time lease=za9 {s with time:=time} (zhU s.sess time (max lease 1)):=by unfold zbi;rw[htp]
  rw[hav]
  exact⟨⟨.inl rfl, .inl rfl, .inl rfl, .inr ⟨rfl,rfl,zai⟩, .inr ⟨rfl,rfl,zad⟩, .inl rfl,trivial⟩,trivial⟩
abbrev zvJ (b:St) (x:Sess):Bool:= !((zaE b.sess x.client).any fun y=>y.num==x.num)
abbrev zoV (s:St):AV:= .agg ((stE s).map C.d)
set_option maxHeartbeats 1000000 in
theorem zmS (s:St) (h:Small s) (hr:RightS s) (c:Int) (hc:isClient c=true):CallOK Tryz.prog 81 [.f (zoV s), .f (ai c)]
  (fun r o=>r=[zmT (zbo s c).1,zey (zbo s c).2]∧o=[]):=by
 refine CallOK.nil ?_
 refine zac zaq mixed (T:=Ty) (n:=57) Tryz.func81 (c:=Tryz.f81.body.getD .skip) rfl Tryz.results81 Tryz.ntmps81 Tryz.call81 ?_
 simp only[Tryz.f81,Option.getD]
 have hfi:=zlN s.sess hr.ss (by have:=h.sess;omega) c
 have hhe:=ziw s.locks h.locks c
 have hn:=hr.num
 have hH:zaS=2^61:=by decide
 have hw:IntKind.i64.wrap (s.num+1)=s.num+1:=wrap64 (by omega) (by omega)
 cases hf:zaE s.sess c with
 |some x=>
  rw[hf]at hfi
  simp only[Option.isSome_some,Option.getD_some]at hfi
  have ho:zbo s c=(s,⟨7,x.num,0,za3 s.locks c⟩):=by unfold zbo;rw[hf]
  rw[ho]
  repeat'(first|refine zq0 ?_|exact zd0|refine zc (hfi) ?_|refine zg (hfi) ?_|refine zc (hhe) ?_|refine zg (hhe) ?_|(refine zaa ?_ ?_<;>intro hb)|(refine And.intro ?_ ?_;exact zI)|(refine And.intro ?_ ?_<;>intro hg)|exact zC|fail)
  simp[zbe,zdd,zbn,zaV]
 |none=>
  rw[hf]at hfi
  simp only[Option.isSome_none,Option.getD_none]at hfi
  have hop:=zr0 s.sess hr.ss h.sess c (s.num+1) s.time hc (by omega) hr.time hf (zdv hr)
  have ho:zbo s c=if((zbQ s.sess c (s.num+1) s.time).2 !=0)=true then(s,⟨(zbQ s.sess c (s.num+1) s.time).2,0,0,[]⟩)else
    ({s with sess:=(zbQ s.sess c (s.num+1) s.time).1,num:=s.num+1},⟨0,s.num+1,0,za3 s.locks c⟩):=by unfold zbo;rw[hf];simp only[bne_iff_ne]
  cases he:(zbQ s.sess c (s.num+1) s.time).2 !=0
  ·rw[he,if_neg (by simp)]at ho
   rw[ho]
   repeat'(first|(with_reducible first|refine zaW 9 ?_|refine zaJ 9 ?_|refine zaK 9 ?_)|refine zu (I hw he) ?_|exact zd (I hw he)|(with_reducible first|refine zab _ _ ?_)|refine zc (hfi) ?_|refine zg (hfi) ?_|refine zc (hhe) ?_|refine zg (hhe) ?_|refine zc (hop) ?_|refine zg (hop) ?_|(refine zaa ?_ ?_<;>intro hb)|(refine And.intro ?_ ?_;exact zI)|(refine And.intro ?_ ?_<;>intro hg)|exact zC|fail)
   refine za1 (zaX (Gh.sealF 2 3 (.own ⟨2,4,7⟩ 0 (zbQ s.sess c (s.num+1) s.time).1.length) ?_) ?_)
   ·exact zo0
   refine zf0 ?_
   repeat'(first|refine zq hw ?_|exact zd hw|refine zc (hhe) ?_|refine zg (hhe) ?_|(refine zaa ?_ ?_<;>intro hb)|(refine And.intro ?_ ?_;exact zI)|(refine And.intro ?_ ?_<;>intro hg)|exact zC|fail)
   simp[zbe,zdd,zbn,zaV]
  ·rw[he,if_pos rfl]at ho
   rw[ho]
   repeat'(first|refine zq (I hw he) ?_|exact zd (I hw he)|refine zc (hfi) ?_|refine zg (hfi) ?_|refine zc (hhe) ?_|refine zg (hhe) ?_|refine zc (hop) ?_|refine zg (hop) ?_|(refine zaa ?_ ?_<;>intro hb)|(refine And.intro ?_ ?_;exact zI)|(refine And.intro ?_ ?_<;>intro hg)|exact zC|fail)
   simp[zbe,zdd,zbn,zaV]
theorem ziP (l:List Lk) (name:ByteArray) (c t:Int) (w:Bool):(zaG l name c t w).1.length≤l.length+1:=by
 unfold zaG
 cases zcc l name with
 |none=>
  simp only
  split
  ·simp
  ·exact Nat.le_of_eq (zhY zb9 _)
 |some k=>
  simp only
  repeat' split
  all_goals simp
theorem ziQ (l:List Lk) (name:ByteArray) (c t:Int):(zaZ l name c t).1.length≤l.length:=by
 unfold zaZ
 cases zcc l name with
 |none=>simp
 |some k=>
  simp only
  split
  ·unfold zco
   split
   ·simp only;rw[List.length_eraseIdx];split<;>omega
   ·simp
  ·split<;>simp
theorem ziR (l:List Lk) (name:ByteArray) (c t:Int):0≤(zaZ l name c t).2.1∧(zaZ l name c t).2.1≤1:=by
 unfold zaZ
 cases zcc l name with
 |none=>simp
 |some k=>
  simp only
  split
  ·unfold zco
   split<;>simp
  ·split<;>simp
set_option maxHeartbeats 4000000 in
theorem zq5 (s:St) (h:Small s) (hr:RightS s) (r:Req) (hm:Req.may r=true):CallOK Tryz.prog 45 [.f (zoV s), .f (.agg (r.enc.map C.d))]
  (fun x o=>x=[zmT (zaR s r).1,zey (zaR s r).2]∧o=[]):=by
 refine CallOK.nil ?_
 refine zac zaq mixed (T:=Ty) (n:=143) Tryz.func45 (c:=Tryz.f45.body.getD .skip) rfl Tryz.results45 Tryz.ntmps45 Tryz.call45 ?_
 simp only[Tryz.f45,Option.getD]
 obtain⟨hc,_,hnm⟩:=zgf hm
 have hfi:=zlN s.sess hr.ss (by have:=h.sess;omega) r.client
 have hT:=hr.token
 have hH:zaS=2^61:=by decide
 have hll:∀k∈s.locks,k.line.length<2^30:=fun k hk=>(h.line k hk).1
 cases h1:r.kind==1
 ·cases hf:zaE s.sess r.client with
  |none=>
   rw[hf]at hfi
   simp only[Option.isSome_none,Option.getD_none]at hfi
   have hd:zaR s r=(s,⟨9,0,0,[]⟩):=by unfold zaR;rw[if_neg (by rw[h1];simp),hf]
   rw[hd]
   repeat'(first|refine zq h1 ?_|exact zd h1|refine zc (hfi) ?_|refine zg (hfi) ?_|(refine zaa ?_ ?_<;>intro hb)|(refine And.intro ?_ ?_;exact zI)|(refine And.intro ?_ ?_<;>intro hg)|exact zC|fail)
   all_goals simp[zbe,zdd,zbn,zaV]
  |some x=>
   rw[hf]at hfi
   simp only[Option.isSome_some,Option.getD_some]at hfi
   cases hx:x.num !=r.session
   ·have hrn:=zpW s.sess hr.ss h.sess r.client s.time hr.time (by rw[hf];rfl)
    have hwt:IntKind.i64.wrap (s.token+1)=s.token+1:=wrap64 (by omega) (by omega)
    have hd0:zaR s r=if(r.kind==3||r.kind==4)=true then
      (if((zaG s.locks r.name r.client s.token (r.kind==3)).2.2==0)=true then(⟨s.time,s.num,s.token+1,(zbd s.sess r.client s.time).1,(zaG s.locks r.name r.client s.token (r.kind==3)).1,s.memos⟩,⟨(zaG s.locks r.name r.client s.token (r.kind==3)).2.2,x.num,0,za3 (zaG s.locks r.name r.client s.token (r.kind==3)).1 r.client⟩)
      else if((zaG s.locks r.name r.client s.token (r.kind==3)).2.2==10)=true then(⟨s.time,s.num,s.token,(zbd s.sess r.client s.time).1,(zaG s.locks r.name r.client s.token (r.kind==3)).1,s.memos⟩,⟨(zaG s.locks r.name r.client s.token (r.kind==3)).2.2,x.num,(zaG s.locks r.name r.client s.token (r.kind==3)).2.1,za3 (zaG s.locks r.name r.client s.token (r.kind==3)).1 r.client⟩)
      else(⟨s.time,s.num,s.token,(zbd s.sess r.client s.time).1,s.locks,s.memos⟩,⟨(zaG s.locks r.name r.client s.token (r.kind==3)).2.2,x.num,0,za3 s.locks r.client⟩))
     else if(r.kind==5)=true then
      (if((zaZ s.locks r.name r.client s.token).2.2==0)=true then(⟨s.time,s.num,s.token+(zaZ s.locks r.name r.client s.token).2.1,(zbd s.sess r.client s.time).1,(zaZ s.locks r.name r.client s.token).1,s.memos⟩,⟨(zaZ s.locks r.name r.client s.token).2.2,x.num,0,za3 (zaZ s.locks r.name r.client s.token).1 r.client⟩)
      else(⟨s.time,s.num,s.token,(zbd s.sess r.client s.time).1,s.locks,s.memos⟩,⟨(zaZ s.locks r.name r.client s.token).2.2,x.num,0,za3 s.locks r.client⟩))
     else if(r.kind==6)=true then(za9 ⟨s.time,s.num,s.token,(zbd s.sess r.client s.time).1,s.locks,s.memos⟩ [r.client],⟨0,0,0,[]⟩)
     else(⟨s.time,s.num,s.token,(zbd s.sess r.client s.time).1,s.locks,s.memos⟩,⟨0,x.num,0,za3 s.locks r.client⟩):=by
     unfold zaR
     rw[if_neg (by rw[h1];simp),hf]
     simp only
     rw[if_neg (by rw[hx];simp)]
     split
     ·by_cases e0:(zaG s.locks r.name r.client s.token (r.kind==3)).2.2=0
      ·rw[if_pos e0,if_neg (by rw[e0];decide),if_pos (by simpa using e0)]
      ·by_cases e10:(zaG s.locks r.name r.client s.token (r.kind==3)).2.2=10
       ·rw[if_neg e0,if_pos e10,if_pos e10,if_neg (by simpa using e0),if_pos (by simpa using e10)]
       ·rw[if_neg e0,if_neg e10,if_neg e10,if_neg (by simpa using e0),if_neg (by simpa using e10)]
     ·split
      ·by_cases e0:(zaZ s.locks r.name r.client s.token).2.2=0
       ·rw[if_pos e0,if_pos (by simpa using e0)]
       ·rw[if_neg e0,if_neg (by simpa using e0)]
      ·rfl
    have htl:=ziP s.locks r.name r.client s.token (r.kind==3)
    have hfl:=ziQ s.locks r.name r.client s.token
    have hnl:=hr.ll
    have hta:=zrX s.locks hr.ls h.locks hll r.name r.client s.token (by omega) (r.kind==3)
    have hfr:=zrY s.locks hr.ls h.locks hll r.name r.client s.token (by omega)
    have hhs:=ziw s.locks h.locks r.client
    have hht:=ziw (zaG s.locks r.name r.client s.token (r.kind==3)).1 (by omega) r.client
    have hhf:=ziw (zaZ s.locks r.name r.client s.token).1 (by omega) r.client
    have hrl:(zaI (zbd s.sess r.client s.time).1).length=(zbd s.sess r.client s.time).1.length*3:=zai
    cases h3:r.kind==3
    ·rw[h3]at hta hht
     rw[h3,Bool.false_or]at hd0
     cases h4:r.kind==4
     ·rw[h4,if_neg (by simp)]at hd0
      cases h5:r.kind==5
      ·rw[h5,if_neg (by simp)]at hd0
       cases h6:r.kind==6
       ·rw[h6,if_neg (by simp)]at hd0
        rw[hd0]
        repeat'(first|refine zq (I h1 (I hx (I h3 (I h4 (I h5 h6))))) ?_|exact zd (I h1 (I hx (I h3 (I h4 (I h5 h6)))))|refine zc (hfi) ?_|refine zg (hfi) ?_|refine zc (hrn) ?_|refine zg (hrn) ?_|refine zc (hhs) ?_|refine zg (hhs) ?_|(refine zaa ?_ ?_<;>intro hb)|(refine And.intro ?_ ?_;exact zI)|(refine And.intro ?_ ?_<;>intro hg)|exact zC|fail)
        exact⟨rfl,⟨.inl rfl, .inl rfl, .inl rfl, .inr ⟨rfl,rfl,hrl⟩, .inl rfl, .inl rfl,trivial⟩,⟨.inl rfl, .inl rfl, .inl rfl, .inl rfl,trivial⟩,trivial⟩
       ·rw[h6,if_pos rfl]at hd0
        rw[hd0]
        have hwo:=zg9 ⟨s.time,s.num,s.token,(zbd s.sess r.client s.time).1,s.locks,s.memos⟩ ⟨by rw[zdL hr hf];simp only[List.length_set];exact h.sess,h.locks,h.memos,h.line,h.held⟩ hr.token [r.client] (by simp)
        repeat'(first|refine zq (I h1 (I hx (I h3 (I h4 (I h5 h6))))) ?_|exact zd (I h1 (I hx (I h3 (I h4 (I h5 h6)))))|refine zc (hfi) ?_|refine zg (hfi) ?_|refine zc (hrn) ?_|refine zg (hrn) ?_|(refine zaa ?_ ?_<;>intro hb)|(refine And.intro ?_ ?_;exact zI)|(refine And.intro ?_ ?_<;>intro hg)|exact zC|fail)
        refine zbH (mv:= ?mv1) (lent:= ?le1) 0 ?ha1 (hwo) ?hb1 ?hc1
        case ha1=>(try simp only[zaD,zY,List.contains_nil,Nat.reduceSub,Nat.reduceEqDiff,Nat.reduceAdd,Nat.reduceMul,Nat.reduceLeDiff,Nat.reduceLT,Nat.reduceBEq,reduceCtorEq]);exact rfl
        case hb1=>(try simp only[scM,zY,List.contains_nil,Nat.reduceSub,Nat.reduceEqDiff,Nat.reduceAdd,Nat.reduceMul,Nat.reduceLeDiff,Nat.reduceLT,Nat.reduceBEq,reduceCtorEq]);repeat'(first|rfl|trivial|omega|with_reducible refine And.intro ?_ ?_)
        show aops _ _ _ _ _ _ _ _
        repeat'(first|refine zq0 ?_|exact zd0|(refine zaa ?_ ?_<;>intro hb)|(refine And.intro ?_ ?_;exact zI)|(refine And.intro ?_ ?_<;>intro hg)|exact zC|fail)
        exact⟨rfl,⟨.inl rfl, .inl rfl, .inl rfl, .inr ⟨rfl,rfl,zai⟩, .inr ⟨rfl,rfl,zad⟩, .inl rfl,trivial⟩,⟨.inl rfl, .inl rfl, .inl rfl, .inr ⟨rfl,rfl⟩,trivial⟩,trivial⟩
      ·rw[h5,if_pos rfl]at hd0
       generalize hT0:zaZ s.locks r.name r.client s.token=T at*
       cases e0:T.2.2==0
       ·rw[e0,if_neg (by simp)]at hd0
        rw[hd0]
        repeat'(first|refine zq (I h1 (I hx (I h3 (I h4 (I h5 e0))))) ?_|exact zd (I h1 (I hx (I h3 (I h4 (I h5 e0)))))|refine zc (hfi) ?_|refine zg (hfi) ?_|refine zc (hrn) ?_|refine zg (hrn) ?_|refine zc (hfr) ?_|refine zg (hfr) ?_|refine zc (hhs) ?_|refine zg (hhs) ?_|(refine zaa ?_ ?_<;>intro hb)|(refine And.intro ?_ ?_;exact zI)|(refine And.intro ?_ ?_<;>intro hg)|exact zC|fail)
        exact⟨rfl,⟨.inl rfl, .inl rfl, .inl rfl, .inr ⟨rfl,rfl,hrl⟩, .inl rfl, .inl rfl,trivial⟩,⟨.inl rfl, .inl rfl, .inl rfl, .inl rfl,trivial⟩,trivial⟩
       ·rw[e0,if_pos rfl]at hd0
        have hwf:IntKind.i64.wrap (s.token+T.2.1)=s.token+T.2.1:=by
         have:=ziR s.locks r.name r.client s.token
         rw[hT0]at this
         exact wrap64 (by omega) (by omega)
        rw[hd0]
        repeat'(first|refine zq (I h1 (I hx (I h3 (I h4 (I h5 (I e0 hwf)))))) ?_|exact zd (I h1 (I hx (I h3 (I h4 (I h5 (I e0 hwf))))))|refine zc (hfi) ?_|refine zg (hfi) ?_|refine zc (hrn) ?_|refine zg (hrn) ?_|refine zc (hfr) ?_|refine zg (hfr) ?_|refine zc (hhf) ?_|refine zg (hhf) ?_|(refine zaa ?_ ?_<;>intro hb)|(refine And.intro ?_ ?_;exact zI)|(refine And.intro ?_ ?_<;>intro hg)|exact zC|fail)
        exact⟨rfl,⟨.inl rfl, .inl rfl, .inl rfl, .inr ⟨rfl,rfl,hrl⟩, .inr ⟨rfl,rfl,zad⟩, .inl rfl,trivial⟩,⟨.inl rfl, .inl rfl, .inl rfl, .inl rfl,trivial⟩,trivial⟩
     ·rw[h4,if_pos rfl]at hd0
      generalize hT0:zaG s.locks r.name r.client s.token false=T at*
      cases e0:T.2.2==0
      ·cases e10:T.2.2==10
       ·rw[e0,if_neg (by simp),e10,if_neg (by simp)]at hd0
        rw[hd0]
        repeat'(first|refine zq (I h1 (I hx (I h3 (I h4 (I e0 (I e10 hwt)))))) ?_|exact zd (I h1 (I hx (I h3 (I h4 (I e0 (I e10 hwt))))))|refine zc (hfi) ?_|refine zg (hfi) ?_|refine zc (hrn) ?_|refine zg (hrn) ?_|refine zc (hta) ?_|refine zg (hta) ?_|refine zc (hhs) ?_|refine zg (hhs) ?_|(refine zaa ?_ ?_<;>intro hb)|(refine And.intro ?_ ?_;exact zI)|(refine And.intro ?_ ?_<;>intro hg)|exact zC|fail)
        exact⟨rfl,⟨.inl rfl, .inl rfl, .inl rfl, .inr ⟨rfl,rfl,hrl⟩, .inl rfl, .inl rfl,trivial⟩,⟨.inl rfl, .inl rfl, .inl rfl, .inl rfl,trivial⟩,trivial⟩
       ·rw[e0,if_neg (by simp),e10,if_pos rfl]at hd0
        rw[hd0]
        repeat'(first|refine zq (I h1 (I hx (I h3 (I h4 (I e0 (I e10 hwt)))))) ?_|exact zd (I h1 (I hx (I h3 (I h4 (I e0 (I e10 hwt))))))|refine zc (hfi) ?_|refine zg (hfi) ?_|refine zc (hrn) ?_|refine zg (hrn) ?_|refine zc (hta) ?_|refine zg (hta) ?_|refine zc (hht) ?_|refine zg (hht) ?_|(refine zaa ?_ ?_<;>intro hb)|(refine And.intro ?_ ?_;exact zI)|(refine And.intro ?_ ?_<;>intro hg)|exact zC|fail)
        exact⟨rfl,⟨.inl rfl, .inl rfl, .inl rfl, .inr ⟨rfl,rfl,hrl⟩, .inr ⟨rfl,rfl,zad⟩, .inl rfl,trivial⟩,⟨.inl rfl, .inl rfl, .inl rfl, .inl rfl,trivial⟩,trivial⟩
      ·rw[e0,if_pos rfl]at hd0
       rw[hd0]
       repeat'(first|refine zq (I h1 (I hx (I h3 (I h4 (I e0 hwt))))) ?_|exact zd (I h1 (I hx (I h3 (I h4 (I e0 hwt)))))|refine zc (hfi) ?_|refine zg (hfi) ?_|refine zc (hrn) ?_|refine zg (hrn) ?_|refine zc (hta) ?_|refine zg (hta) ?_|refine zc (hht) ?_|refine zg (hht) ?_|(refine zaa ?_ ?_<;>intro hb)|(refine And.intro ?_ ?_;exact zI)|(refine And.intro ?_ ?_<;>intro hg)|exact zC|fail)
       exact⟨rfl,⟨.inl rfl, .inl rfl, .inl rfl, .inr ⟨rfl,rfl,hrl⟩, .inr ⟨rfl,rfl,zad⟩, .inl rfl,trivial⟩,⟨.inl rfl, .inl rfl, .inl rfl, .inl rfl,trivial⟩,trivial⟩
    ·rw[h3]at hta hht
     rw[h3,Bool.true_or,if_pos rfl]at hd0
     generalize hT0:zaG s.locks r.name r.client s.token true=T at*
     cases e0:T.2.2==0
     ·cases e10:T.2.2==10
      ·rw[e0,if_neg (by simp),e10,if_neg (by simp)]at hd0
       rw[hd0]
       repeat'(first|refine zq (I h1 (I hx (I h3 (I e0 (I e10 hwt))))) ?_|exact zd (I h1 (I hx (I h3 (I e0 (I e10 hwt)))))|refine zc (hfi) ?_|refine zg (hfi) ?_|refine zc (hrn) ?_|refine zg (hrn) ?_|refine zc (hta) ?_|refine zg (hta) ?_|refine zc (hhs) ?_|refine zg (hhs) ?_|(refine zaa ?_ ?_<;>intro hb)|(refine And.intro ?_ ?_;exact zI)|(refine And.intro ?_ ?_<;>intro hg)|exact zC|fail)
       exact⟨rfl,⟨.inl rfl, .inl rfl, .inl rfl, .inr ⟨rfl,rfl,hrl⟩, .inl rfl, .inl rfl,trivial⟩,⟨.inl rfl, .inl rfl, .inl rfl, .inl rfl,trivial⟩,trivial⟩
      ·rw[e0,if_neg (by simp),e10,if_pos rfl]at hd0
       rw[hd0]
       repeat'(first|refine zq (I h1 (I hx (I h3 (I e0 (I e10 hwt))))) ?_|exact zd (I h1 (I hx (I h3 (I e0 (I e10 hwt)))))|refine zc (hfi) ?_|refine zg (hfi) ?_|refine zc (hrn) ?_|refine zg (hrn) ?_|refine zc (hta) ?_|refine zg (hta) ?_|refine zc (hht) ?_|refine zg (hht) ?_|(refine zaa ?_ ?_<;>intro hb)|(refine And.intro ?_ ?_;exact zI)|(refine And.intro ?_ ?_<;>intro hg)|exact zC|fail)
       exact⟨rfl,⟨.inl rfl, .inl rfl, .inl rfl, .inr ⟨rfl,rfl,hrl⟩, .inr ⟨rfl,rfl,zad⟩, .inl rfl,trivial⟩,⟨.inl rfl, .inl rfl, .inl rfl, .inl rfl,trivial⟩,trivial⟩
     ·rw[e0,if_pos rfl]at hd0
      rw[hd0]
      repeat'(first|refine zq (I h1 (I hx (I h3 (I e0 hwt)))) ?_|exact zd (I h1 (I hx (I h3 (I e0 hwt))))|refine zc (hfi) ?_|refine zg (hfi) ?_|refine zc (hrn) ?_|refine zg (hrn) ?_|refine zc (hta) ?_|refine zg (hta) ?_|refine zc (hht) ?_|refine zg (hht) ?_|(refine zaa ?_ ?_<;>intro hb)|(refine And.intro ?_ ?_;exact zI)|(refine And.intro ?_ ?_<;>intro hg)|exact zC|fail)
      exact⟨rfl,⟨.inl rfl, .inl rfl, .inl rfl, .inr ⟨rfl,rfl,hrl⟩, .inr ⟨rfl,rfl,zad⟩, .inl rfl,trivial⟩,⟨.inl rfl, .inl rfl, .inl rfl, .inl rfl,trivial⟩,trivial⟩
   ·have hd:zaR s r=(s,⟨9,0,0,[]⟩):=by unfold zaR;rw[if_neg (by rw[h1];simp),hf];simp only;rw[if_pos hx]
    rw[hd]
    repeat'(first|refine zq (I h1 hx) ?_|exact zd (I h1 hx)|refine zc (hfi) ?_|refine zg (hfi) ?_|(refine zaa ?_ ?_<;>intro hb)|(refine And.intro ?_ ?_;exact zI)|(refine And.intro ?_ ?_<;>intro hg)|exact zC|fail)
    all_goals simp[zbe,zdd,zbn,zaV]
 ·have hop:=zmS s h hr r.client hc
  have hd:zaR s r=zbo s r.client:=by unfold zaR;rw[if_pos h1]
  rw[hd]
  repeat'(first|refine zq h1 ?_|exact zd h1|refine zc (hfi) ?_|refine zg (hfi) ?_|refine zc (hop) ?_|refine zg (hop) ?_|(refine zaa ?_ ?_<;>intro hb)|(refine And.intro ?_ ?_;exact zI)|(refine And.intro ?_ ?_<;>intro hg)|exact zC|fail)
  all_goals simp[zbe,zdd,zbn,zaV]
end Go.Proofs.YtngleemijkaeoaaGreat
