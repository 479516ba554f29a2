import Derived.Test.YtngleemijkaeoaaGreatU
namespace Go.Proofs.YtngleemijkaeoaaGreat
open Go.Pk
set_option maxRecDepth 100000
set_option linter.unusedSimpArgs false
set_option linter.unusedVariables false
def zcl (r:Reply):Prop:=r.held.length<2^30∧∀g∈r.held,g.name.size<2^62
theorem zgP (r:Reply) (hr:zcl r):CallOK Tryz.prog 127 [.f (.agg r.lent)] (fun x o=>x=[rb (zcC r)]∧o=[]):=by
 refine zac zar mixed (T:=Ty) (n:=87) Tryz.func127 (c:=Tryz.f127.body.getD .skip) rfl Tryz.results127 Tryz.ntmps127 Tryz.call127 ?_
 simp only[Tryz.f127,Option.getD]
 obtain⟨h1,h2⟩:=hr
 cases hA:(decide (r.code<0)||decide (r.code>12)||decide (r.session<0)||decide (r.session>2305843009213693952)||decide (r.ahead<0)||decide (r.ahead>3))
 ·cases hB:(decide ((r.held.length:Int)>4)||(r.session==0)&&decide ((r.held.length:Int)>0))
  ·have hs:zcC r=zbq (zcp r.held) 0 r.held:=by
    unfold zcC
    rw[show(decide (r.code<0)||decide (r.code>12)||decide (r.session<0)||decide (r.session>zaT)||decide (r.ahead<0)||decide (r.ahead>3))=false from hA,hB]
    rfl
   rw[hs]
   repeat'(first|refine zq (I hA hB) ?_|exact zd (I hA hB)|(refine zaa ?_ ?_<;>intro hb)|(refine And.intro ?_ ?_;exact zI)|(refine And.intro ?_ ?_<;>intro hg)|exact zC|fail)
   refine zao (τ:=Nat) (fun i=>⟨[dd, .one (.ptr ⟨1,0,1⟩ 0),dd,dd,dd,dd,dd,dd,dd,dd,dd,dd,dd,dd,dd,dd,dd,dd,dd,dd,dd,dd,dd,dd,dd,dd,dd,dd,dd,dd,dd,dd,dd,dd,dd,dd,dd,dd,dd,dd,dd,dd,dd,dd,dd,dd,dd,dd,dd,al r.held.length (zaG r.held),ai r.held.length,ai i,dd,dd,dd,dd,dd,dd,dd,dd,dd,dd,dd,dd,dd,dd,dd,dd,dd,dd,dd,dd,dd,dd,dd,dd,dd,dd,dd,dd,dd,dd,dd,dd,dd,dd,dd],[(1,{next:=2,l:=[some {e:=1,var:=true,fz:=false,sz:=0,cells:=[di r.code,di r.session,di r.ahead, .lent r.held.length (zaG r.held)]},none,none,none,none]}),(4,⟨2,[]⟩)]⟩)
    (fun i=>i≤r.held.length) (fun i=>zbq (zcp r.held) i (r.held.drop i)) (fun i=>r.held.length - i) 0
    (Gh.canon [1] [4] [] zK rfl rfl) (Nat.zero_le _) ?_
   intro i hi0 hF K hK
   rw[List.drop_zero]at hF
   refine zw ?_
   refine zaa (fun hlt=> ?_) (fun hge=> ?_)
   ·have hi:i<r.held.length:=by simpa using hlt
    have hat:=zcD hi
    have hw:=zan hi (by omega)
    rw[zaR hi]at hF
    have hnm:=zkS r.held[i].name (h2 _ (List.getElem_mem hi))
    cases e0:decide ((i:Int)>0)
    ·have h0:i=0:=by simpa using e0
     have hq:zcp r.held i r.held[i]= !(!nameP r.held[i].name||decide (r.held[i].token<1)||decide (r.held[i].token>2305843009213693952)):=by
      unfold zcp
      have:decide (i>0)=false:=by simpa using e0
      rw[this,Bool.false_and,Bool.or_false]
     have hp:(zaG r.held).drop ((IntKind.i64.wrap ((i:Int) - 1)).toNat*2)=r.held[i].enc++zaG (r.held.drop (i+1)):=by
      rw[←zcD hi,h0];rfl
     repeat'(first|refine zq (I hat (I hp (I e0 (I @zaW zca)))) ?_|exact zd (I hat (I hp (I e0 (I @zaW zca))))|refine zc (hnm) ?_|refine zg (hnm) ?_|(refine zaa ?_ ?_<;>intro hb)|(refine And.intro ?_ ?_;exact zI)|(refine And.intro ?_ ?_<;>intro hg)|exact zC|fail)
     ·rw[hq,hb,if_neg (by simp)]at hF
      rw[←hF]
     ·exact hK _ (i+1) (Gh.canon [1] [] [] (zk hw) rfl rfl) hi (by rw[zaR hi,hq,hb];rfl) (by omega)
    ·have h0:0<i:=by simpa using e0
     have hq:zcp r.held i r.held[i]= !(!nameP r.held[i].name||decide (r.held[i].token<1)||decide (r.held[i].token>2305843009213693952)|| !(zdh (r.held[i - 1]'(by omega)).name r.held[i].name)):=by
      unfold zcp zpo
      have:decide (i>0)=true:=by simpa using e0
      rw[this,List.getElem?_eq_getElem (by omega)]
      simp only[Bool.true_and,Option.map_some,Option.getD_some]
     have hp:=zcD (show i - 1<r.held.length by omega)
     have hw1:IntKind.i64.wrap ((i:Int) - 1)=((i - 1:Nat):Int):=by rw[wrap64 (by omega) (by omega)];omega
     repeat'(first|refine zq (I hat (I hp (I hw1 (I e0 (I @zaW zca))))) ?_|exact zd (I hat (I hp (I hw1 (I e0 (I @zaW zca)))))|refine zc (hnm) ?_|refine zg (hnm) ?_|(refine zaa ?_ ?_<;>intro hb)|(refine And.intro ?_ ?_;exact zI)|(refine And.intro ?_ ?_<;>intro hg)|exact zC|fail)
     ·rw[hq,hb,if_neg (by simp)]at hF
      rw[←hF]
     ·exact hK _ (i+1) (Gh.canon [1] [] [] (zk hw) rfl rfl) hi (by rw[zaR hi,hq,hb];rfl) (by omega)
   ·have hi:i=r.held.length:=by
     have:¬(i:Int)<r.held.length:=by simpa using hge
     omega
    rw[zcM hi]at hF
    rw[←hF]
    repeat'(first|refine zq0 ?_|exact zd0|(refine zaa ?_ ?_<;>intro hb)|(refine And.intro ?_ ?_;exact zI)|(refine And.intro ?_ ?_<;>intro hg)|exact zC|fail)
  ·have hs:zcC r=false:=by
    unfold zcC
    rw[hB,Bool.not_true,Bool.and_false,Bool.false_and]
   rw[hs]
   repeat'(first|refine zq (I hA hB) ?_|exact zd (I hA hB)|(refine zaa ?_ ?_<;>intro hb)|(refine And.intro ?_ ?_;exact zI)|(refine And.intro ?_ ?_<;>intro hg)|exact zC|fail)
 ·have hs:zcC r=false:=by
   unfold zcC
   rw[show(decide (r.code<0)||decide (r.code>12)||decide (r.session<0)||decide (r.session>zaT)||decide (r.ahead<0)||decide (r.ahead>3))=true from hA]
   rfl
  rw[hs]
  repeat'(first|refine zq hA ?_|exact zd hA|(refine zaa ?_ ?_<;>intro hb)|(refine And.intro ?_ ?_;exact zI)|(refine And.intro ?_ ?_<;>intro hg)|exact zC|fail)
theorem zjX (m:Memo) (hr:zcl m.reply):CallOK Tryz.prog 87 [.f (.agg m.lent)] (fun x o=>x=[rb (answerB m)]∧o=[]):=by
 refine zac zar mixed (T:=Ty) (n:=26) Tryz.func87 (c:=Tryz.f87.body.getD .skip) rfl Tryz.results87 Tryz.ntmps87 Tryz.call87 ?_
 simp only[Tryz.f87,Option.getD]
 repeat'(first|refine zq0 ?_|exact zd0|refine zc (zgP m.reply hr) ?_|refine zg (zgP m.reply hr) ?_|(refine zaa ?_ ?_<;>intro hb)|(refine And.intro ?_ ?_;exact zI)|(refine And.intro ?_ ?_<;>intro hg)|exact zC|fail)
 rfl
theorem zmK (x:Memo) (c:Int):CallOK Tryz.prog 111 [.f (zqH x), .f (ai c)] (fun r o=>r=[ri (zk7 x.client c)]∧o=[]):=by
 refine zac zar mixed (T:=Ty) (n:=9) Tryz.func111 (c:=Tryz.f111.body.getD .skip) rfl Tryz.results111 Tryz.ntmps111 Tryz.call111 ?_
 simp only[Tryz.f111,Option.getD]
 repeat'(first|refine zq0 ?_|exact zd0|refine zc (zdy x.client c) ?_|refine zg (zdy x.client c) ?_|(refine zaa ?_ ?_<;>intro hb)|(refine And.intro ?_ ?_;exact zI)|(refine And.intro ?_ ?_<;>intro hg)|exact zC|fail)
theorem zgQ (l:List Memo) (hs:SM l) (hl:l.length<2^62) (c:Int):CallOK Tryz.prog 69 [.f (al l.length (zav l)), .f (ai c)] (fun r o=>r=[ri (zfo l c),rb (zbe l c).isSome]∧o=[]):=by
 refine zac zar mixed (T:=Ty) (n:=11) Tryz.func69 (c:=Tryz.f69.body.getD .skip) rfl Tryz.results69 Tryz.ntmps69 Tryz.call69 ?_
 simp only[Tryz.f69,Option.getD]
 have h:=zi5 l hl c (fun x=>zk7 x.client c) 111 (zfo l c) zb9
  (fun j hj h=>by have:=zfs hj h;simp at this;exact ziz.2 this)
  (fun j hj h=>by have:=zft hj (zkx hs c) h;simp at this;have h2:= @ziz l[j].client c;omega) (fun x _=>zmK x c)
 have e:((l[zfo l c]?.map fun x=>zk7 x.client c==0).getD false)=(zbe l c).isSome:=by
  rw[ziX hs,ziA]
  simp only[zj0]
 rw[e]at h
 repeat'(first|refine zq0 ?_|exact zd0|refine zc (h) ?_|refine zg (h) ?_|(refine zaa ?_ ?_<;>intro hb)|(refine And.intro ?_ ?_;exact zI)|(refine And.intro ?_ ?_<;>intro hg)|exact zC|fail)
theorem zmL (l:List Memo) (hl:l.length<2^30) (hll:∀m∈l,m.reply.held.length<2^30):CallOK Tryz.prog 86 [.f (al l.length (zav l))] (fun r o=>r=[.one (.own 6 l.length (zav l) false)]∧o=[]):=by
 refine zac zar mixed (T:=Ty) (n:=26) Tryz.func86 (c:=Tryz.f86.body.getD .skip) rfl Tryz.results86 Tryz.ntmps86 Tryz.call86 ?_
 simp only[Tryz.f86,Option.getD]
 have hcn:=zfv l.length (zav l) zaj (by omega)
 repeat'(first|refine zq @zaj ?_|exact zd @zaj|refine zc (hcn) ?_|refine zg (hcn) ?_|(refine zaa ?_ ?_<;>intro hb)|(refine And.intro ?_ ?_;exact zI)|(refine And.intro ?_ ?_<;>intro hg)|exact zC|fail)
 refine zao (τ:=Nat) (fun i=>⟨[dd,dd,dd, .one (.own ⟨3,1,1⟩ 0 l.length),dd,dd,dd,dd,ai l.length,ai i,dd,dd,dd,dd,dd,dd,dd,dd,dd,dd,dd,dd,dd,dd,dd,dd],[(6,⟨2,[]⟩),(3,{next:=2,l:=[none,some {e:=1,var:=false,fz:=false,sz:=6,cells:=(zav l).map C.d}]}),(20,⟨2,[]⟩)]⟩)
  (fun i=>i≤l.length) (fun _=>()) (fun i=>l.length - i) 0
  (Gh.canon [3] [20] [] zK rfl rfl) (Nat.zero_le _) ?_
 intro i hi0 hF K hK
 refine zw ?_
 refine zaa (fun hlt=> ?_) (fun hge=> ?_)
 ·have hi:i<l.length:=by simpa using hlt
  have hat:=zbu hi
  have hat2:(zav l).drop (i*6+2+3)= .sl l[i].reply.held.length (zaG l[i].reply.held)::zav (l.drop (i+1)):=by rw[Nat.add_assoc,←List.drop_drop,hat];rfl
  have hw:=zan hi (by omega)
  have hci:=zcT l[i].reply.held.length (zaG l[i].reply.held) zaW (by have:=hll _ (List.getElem_mem hi);omega)
  have hset:=zbP Memo.enc 6 (fun _=>rfl) hi (k:=5) (by decide) (.sl l[i].reply.held.length (zaG l[i].reply.held)) l[i] rfl
  rw[List.set_getElem_self,show i*6+5=i*6+2+3 from rfl]at hset
  repeat'(first|refine zq (I hat2 (I hset (I @zmd (I @List.map_cons.{0,0} @zaj)))) ?_|exact zd (I hat2 (I hset (I @zmd (I @List.map_cons.{0,0} @zaj))))|refine zc (hci) ?_|refine zg (hci) ?_|(refine zaa ?_ ?_<;>intro hb)|(refine And.intro ?_ ?_;exact zI)|(refine And.intro ?_ ?_<;>intro hg)|exact zC|fail)
  exact hK _ (i+1) (Gh.canon [3] [] [] (zk hw) rfl rfl) hi rfl (by omega)
 ·have hi:i=l.length:=by
   have:¬(i:Int)<l.length:=by simpa using hge
   omega
  repeat'(first|refine zq0 ?_|exact zd0|(refine zaa ?_ ?_<;>intro hb)|(refine And.intro ?_ ?_;exact zI)|(refine And.intro ?_ ?_<;>intro hg)|exact zC|fail)
theorem zix (l:List Memo) (hs:SM l) (hl:l.length<2^30) (c q:Int):CallOK Tryz.prog 37 [.f (al l.length (zav l)), .f (ai c), .f (ai q)] (fun r o=>r=[ri (zbc l c q)]∧o=[]):=by
 refine zac zar mixed (T:=Ty) (n:=35) Tryz.func37 (c:=Tryz.f37.body.getD .skip) rfl Tryz.results37 Tryz.ntmps37 Tryz.call37 ?_
 simp only[Tryz.f37,Option.getD]
 have hp:=zgQ l hs (by omega) c
 cases hf:zbe l c with
 |none=>
  rw[hf]at hp
  simp only[Option.isSome_none]at hp
  have hd:(zav l).drop (zfo l c*6)=[]∨∃x q,(zav l).drop (zfo l c*6)=Memo.enc x++q:=by
   rcases Nat.lt_or_ge (zfo l c) l.length with h|h
   ·exact .inr ⟨_,_,zbu h⟩
   ·exact .inl (List.drop_of_length_le (by rw[zaj];omega))
  have hfr:zbc l c q=1:=by unfold zbc;rw[hf]
  rw[hfr]
  rcases hd with hat|⟨x,q,hat⟩
  ·repeat'(first|refine zq (I hat (I @List.drop_nil.{0} @zaj)) ?_|exact zd (I hat (I @List.drop_nil.{0} @zaj))|refine zc (hp) ?_|refine zg (hp) ?_|(refine zaa ?_ ?_<;>intro hb)|(refine And.intro ?_ ?_;exact zI)|(refine And.intro ?_ ?_<;>intro hg)|exact zC|fail)
  ·repeat'(first|refine zq (I hat (I @zaj zca)) ?_|exact zd (I hat (I @zaj zca))|refine zc (hp) ?_|refine zg (hp) ?_|(refine zaa ?_ ?_<;>intro hb)|(refine And.intro ?_ ?_;exact zI)|(refine And.intro ?_ ?_<;>intro hg)|exact zC|fail)
 |some x=>
  rw[hf]at hp
  simp only[Option.isSome_some]at hp
  obtain⟨⟨hi,he⟩,hc⟩:=zfZ hs hf
  have hat:=zbu hi
  rw[he]at hat
  have hfr:zbc l c q=if x.seq<q then 1 else if x.seq=q then 0 else -1:=by unfold zbc;rw[hf]
  rw[hfr]
  repeat'(first|refine zq (I hat (I @zaj zca)) ?_|exact zd (I hat (I @zaj zca))|refine zc (hp) ?_|refine zg (hp) ?_|(refine zaa ?_ ?_<;>intro hb)|(refine And.intro ?_ ?_;exact zI)|(refine And.intro ?_ ?_<;>intro hg)|exact zC|fail)
  ·rw[if_pos (by simpa using hb)]
  ·rename_i h1
   rw[if_neg (by simpa using h1),if_pos (by simpa using hb)]
  ·rename_i h1
   rw[if_neg (by simpa using h1),if_neg (by simpa using hb)]
def zcm:Memo:=⟨0,0,⟨0,0,0,[]⟩⟩
theorem zse (l:List Memo) (hs:SM l) (hl:l.length<2^30) (hll:∀m∈l,m.reply.held.length<2^30) (c:Int):CallOK Tryz.prog 44 [.f (al l.length (zav l)), .f (ai c)]
  (fun r o=>r=[.agg [.d (iD ((zbe l c).getD zcm).client), .d (iD ((zbe l c).getD zcm).seq), .d (iD ((zbe l c).getD zcm).reply.code), .d (iD ((zbe l c).getD zcm).reply.session), .d (iD ((zbe l c).getD zcm).reply.ahead), .own 2 ((zbe l c).getD zcm).reply.held.length (zaG ((zbe l c).getD zcm).reply.held) false],rb (zbe l c).isSome]∧o=[]):=by
 refine CallOK.nil ?_
 refine zac zar mixed (T:=Ty) (n:=29) Tryz.func44 (c:=Tryz.f44.body.getD .skip) rfl Tryz.results44 Tryz.ntmps44 Tryz.call44 ?_
 simp only[Tryz.f44,Option.getD]
 have hp:=zgQ l hs (by omega) c
 cases hf:zbe l c with
 |none=>
  rw[hf]at hp
  simp only[Option.isSome_none]at hp
  repeat'(first|refine zq @zaj ?_|exact zd @zaj|refine zc (hp) ?_|refine zg (hp) ?_|(refine zaa ?_ ?_<;>intro hb)|(refine And.intro ?_ ?_;exact zI)|(refine And.intro ?_ ?_<;>intro hg)|exact zC|fail)
  simp[zbg,zdg,zbp,zaY,zcm]
 |some x=>
  rw[hf]at hp
  simp only[Option.isSome_some]at hp
  obtain⟨⟨hi,he⟩,hc⟩:=zfZ hs hf
  have hat:=zbu hi
  rw[he]at hat
  have hci:=zcT x.reply.held.length (zaG x.reply.held) zaW (by have:=hll x (he▸List.getElem_mem hi);omega)
  repeat'(first|refine zq (I hat (I @zaj zca)) ?_|exact zd (I hat (I @zaj zca))|refine zc (hp) ?_|refine zg (hp) ?_|refine zc (hci) ?_|refine zg (hci) ?_|(refine zaa ?_ ?_<;>intro hb)|(refine And.intro ?_ ?_;exact zI)|(refine And.intro ?_ ?_<;>intro hg)|exact zC|fail)
  simp[zbg,zdg,zbp,zaY]
set_option maxHeartbeats 2000000 in
theorem zsf (l:List Memo) (hs:SM l) (hl:l.length<2^30) (hll:∀m∈l,m.reply.held.length<2^30) (a:Memo) (ha:zcl a.reply):CallOK Tryz.prog 46 [.f (al l.length (zav l)), .f (.agg a.lent)]
  (fun r o=>r=[.one (.own 6 (zdJ l a).length (zav (zdJ l a)) false)]∧o=[]):=by
 refine zac zar mixed (T:=Ty) (n:=55) Tryz.func46 (c:=Tryz.f46.body.getD .skip) rfl Tryz.results46 Tryz.ntmps46 Tryz.call46 ?_
 simp only[Tryz.f46,Option.getD]
 have hcp:=zmL l hl hll
 have hma:=zjX a ha
 have hfr:=zix l hs hl a.client a.seq
 have hp:=zgQ l hs (by omega) a.client
 have hci:=zcT a.reply.held.length (zaG a.reply.held) zaW (by have:=ha.1;omega)
 cases hA:answerB a
 ·have hk:zdJ l a=l:=by unfold zdJ;rw[hA];rfl
  rw[hk]
  rw[hA]at hma
  repeat'(first|refine zq @zaj ?_|exact zd @zaj|refine zc (hcp) ?_|refine zg (hcp) ?_|refine zc (hma) ?_|refine zg (hma) ?_|refine zc (hfr) ?_|refine zg (hfr) ?_|(refine zaa ?_ ?_<;>intro hb)|(refine And.intro ?_ ?_;exact zI)|(refine And.intro ?_ ?_<;>intro hg)|exact zC|fail)
 ·rw[hA]at hma
  cases hB:zbc l a.client a.seq !=1
  ·have hk:zdJ l a=if(zbe l a.client).isSome=true then l.set (zfo l a.client) a else l.take (zfo l a.client)++a::l.drop (zfo l a.client):=by unfold zdJ;rw[hA,hB];rfl
   rw[hk]
   cases hf:(zbe l a.client).isSome
   ·rw[hf]at hp
    rw[if_neg (by simp)]
    have hin:=zmo l.length (zfo l a.client) (zav l) a.enc zaj rfl zb9 hl
    have hti:=zkz Memo.enc 6 (fun _=>rfl) (l:=l) (k:=zfo l a.client) zb9 a
    have htl:=zh0 (l:=l) (k:=zfo l a.client) zb9 a
    simp only[htl,hti]
    repeat'(first|refine zq (I @zaj hB) ?_|exact zd (I @zaj hB)|refine zc (hcp) ?_|refine zg (hcp) ?_|refine zc (hma) ?_|refine zg (hma) ?_|refine zc (hfr) ?_|refine zg (hfr) ?_|refine zc (hci) ?_|refine zg (hci) ?_|refine zc (hp) ?_|refine zg (hp) ?_|(refine zaa ?_ ?_<;>intro hb)|(refine And.intro ?_ ?_;exact zI)|(refine And.intro ?_ ?_<;>intro hg)|exact zC|fail)
    refine zbK (mv:= ?mv1) (lent:= ?le1) 0 ?ha1 (hin) ?hb1 ?hc1
    case ha1=>(try simp only[zB,zaE,Nat.reduceSub,Nat.reduceEqDiff,Nat.reduceAdd,Nat.reduceMul,Nat.reduceLeDiff,Nat.reduceLT,Nat.reduceBEq,reduceCtorEq]);exact rfl
    case hb1=>(try simp only[zB,scM,Nat.reduceSub,Nat.reduceEqDiff,Nat.reduceAdd,Nat.reduceMul,Nat.reduceLeDiff,Nat.reduceLT,Nat.reduceBEq,reduceCtorEq]);repeat'(first|rfl|trivial|omega|with_reducible refine And.intro ?_ ?_)
    show aops _ _ _ _ _ _ _ _
    repeat'(first|refine zq0 ?_|exact zd0|(refine zaa ?_ ?_<;>intro hb)|(refine And.intro ?_ ?_;exact zI)|(refine And.intro ?_ ?_<;>intro hg)|exact zC|fail)
   ·rw[hf]at hp
    rw[if_pos rfl]
    obtain⟨x,hx⟩:=Option.isSome_iff_exists.1 hf
    obtain⟨⟨hi,he⟩,hc⟩:=zfZ hs hx
    have hset:=zd9 Memo.enc 6 (fun _=>rfl) hi a
    simp only[fillAt,List.map_cons,List.map_nil]at hset
    repeat'(first|refine zq (I @zaj (I hB hset)) ?_|exact zd (I @zaj (I hB hset))|refine zc (hcp) ?_|refine zg (hcp) ?_|refine zc (hma) ?_|refine zg (hma) ?_|refine zc (hfr) ?_|refine zg (hfr) ?_|refine zc (hci) ?_|refine zg (hci) ?_|refine zc (hp) ?_|refine zg (hp) ?_|(refine zaa ?_ ?_<;>intro hb)|(refine And.intro ?_ ?_;exact zI)|(refine And.intro ?_ ?_<;>intro hg)|exact zC|fail)
    rw[List.length_set]
  ·have hk:zdJ l a=l:=by unfold zdJ;rw[hB,Bool.or_true];rfl
   rw[hk]
   repeat'(first|refine zq (I @zaj hB) ?_|exact zd (I @zaj hB)|refine zc (hcp) ?_|refine zg (hcp) ?_|refine zc (hma) ?_|refine zg (hma) ?_|refine zc (hfr) ?_|refine zg (hfr) ?_|(refine zaa ?_ ?_<;>intro hb)|(refine And.intro ?_ ?_;exact zI)|(refine And.intro ?_ ?_<;>intro hg)|exact zC|fail)
abbrev stE (s:St):List D:=[iD s.time,iD s.num,iD s.token, .sl s.sess.length (zaF s.sess), .sl s.locks.length (zah s.locks), .sl s.memos.length (zav s.memos)]
abbrev znc (s:St):RF:= .agg ((stE s).map RO.d)
abbrev zez (a:Reply):RF:= .agg [.d (iD a.code), .d (iD a.session), .d (iD a.ahead), .own 2 a.held.length (zaG a.held) false]
structure Small (s:St):Prop where
 sess:s.sess.length<2^30
 locks:s.locks.length<2^30
 memos:s.memos.length<2^30
 line:∀k∈s.locks,k.line.length<2^30∧k.name.size<2^62
 held:∀m∈s.memos,zcl m.reply
set_option maxHeartbeats 1000000 in
theorem ziT (s:St) (h:Small s):CallOK Tryz.prog 38 [.f (.agg s.lent)] (fun r o=>r=[s.rf]∧o=[]):=by
 refine zac zar mixed (T:=Ty) (n:=58) Tryz.func38 (c:=Tryz.f38.body.getD .skip) rfl Tryz.results38 Tryz.ntmps38 Tryz.call38 ?_
 simp only[Tryz.f38,Option.getD]
 have hcs:=zea s.sess.length (zaF s.sess) zai (by have:=h.sess;omega)
 have hcl:=zfu s.locks.length (zah s.locks) zad (by have:=h.locks;omega)
 have hcm:=zfv s.memos.length (zav s.memos) zaj (by have:=h.memos;omega)
 repeat'(first|refine zq0 ?_|exact zd0|refine zc (hcs) ?_|refine zg (hcs) ?_|refine zc (hcl) ?_|refine zg (hcl) ?_|refine zc (hcm) ?_|refine zg (hcm) ?_|(refine zaa ?_ ?_<;>intro hb)|(refine And.intro ?_ ?_;exact zI)|(refine And.intro ?_ ?_<;>intro hg)|exact zC|fail)
 refine zao (τ:=Nat) (fun i=>⟨[dd, .one (.ptr ⟨1,0,1⟩ 0), .one (.ptr ⟨2,0,1⟩ 0),dd,dd,dd,dd,dd,dd,dd,dd,dd,dd,dd,dd,ai s.locks.length,ai i,dd,dd,dd,dd,dd,dd,dd,dd,dd,dd,dd,dd,dd,dd,dd,dd,dd,dd,dd,dd,dd,dd,dd,dd,dd,dd,dd,dd,dd,dd,dd,dd,dd,dd,dd,dd,dd,dd,dd,dd,dd],[(1,{next:=2,l:=[some {e:=1,var:=true,fz:=false,sz:=0,cells:=[di s.time,di s.num,di s.token, .own ⟨1,4,1⟩ 0 s.sess.length, .own ⟨1,5,1⟩ 0 s.locks.length, .lent s.memos.length (zav s.memos)]},none,none,none,some {e:=1,var:=false,fz:=false,sz:=3,cells:=(zaF s.sess).map C.d},some {e:=1,var:=false,fz:=false,sz:=4,cells:=(zah s.locks).map C.d},none]}),(2,{next:=2,l:=[some {e:=1,var:=true,fz:=false,sz:=0,cells:=[di 0,di 0,di 0, .d (.v (.slice none 0 0)), .d (.v (.slice none 0 0)), .d (.v (.slice none 0 0))]},none,none,none,none,none,none]}),(7,⟨2,[]⟩),(11,⟨2,[]⟩),(28,⟨2,[]⟩)]⟩)
  (fun i=>i≤s.locks.length) (fun _=>()) (fun i=>s.locks.length - i) 0
  (Gh.canon [1,2] [28] [] zK rfl rfl) (Nat.zero_le _) ?_
 intro i hi0 hF K hK
 refine zw ?_
 refine zaa (fun hlt=> ?_) (fun hge=> ?_)
 ·have hi:i<s.locks.length:=by simpa using hlt
  have hat:=zaJ hi
  have hat2:(zah s.locks).drop (i*4+3)= .sl s.locks[i].line.length (zat s.locks[i].line)::zah (s.locks.drop (i+1)):=by rw[←List.drop_drop,hat];rfl
  have hw:=zan hi (by have:=h.locks;omega)
  have hci:=zcS s.locks[i].line.length (zat s.locks[i].line) zaf (by have:=(h.line _ (List.getElem_mem hi)).1;omega)
  have hset:=zbP Lk.enc 4 (fun _=>rfl) hi (k:=3) (by decide) (.sl s.locks[i].line.length (zat s.locks[i].line)) s.locks[i] rfl
  rw[List.set_getElem_self]at hset
  repeat'(first|refine zq (I hat2 (I hset (I @zmd (I @List.map_cons.{0,0} @zad)))) ?_|exact zd (I hat2 (I hset (I @zmd (I @List.map_cons.{0,0} @zad))))|refine zc (hci) ?_|refine zg (hci) ?_|(refine zaa ?_ ?_<;>intro hb)|(refine And.intro ?_ ?_;exact zI)|(refine And.intro ?_ ?_<;>intro hg)|exact zC|fail)
  exact hK _ (i+1) (Gh.canon [1,2] [] [] (zk hw) rfl rfl) hi rfl (by omega)
 ·have hi:i=s.locks.length:=by
   have:¬(i:Int)<s.locks.length:=by simpa using hge
   omega
  repeat'(first|refine zq0 ?_|exact zd0|refine zc (hcm) ?_|refine zg (hcm) ?_|(refine zaa ?_ ?_<;>intro hb)|(refine And.intro ?_ ?_;exact zI)|(refine And.intro ?_ ?_<;>intro hg)|exact zC|fail)
  refine zao (τ:=Nat) (fun i=>⟨[dd, .one (.ptr ⟨1,0,1⟩ 0), .one (.ptr ⟨2,0,1⟩ 0),dd,dd,dd,dd,dd,dd,dd,dd,dd,dd,dd,dd,dd,dd,dd,dd,dd,dd,dd,dd,dd,dd,dd,dd,dd,dd,dd,dd,dd,dd,dd,dd,dd,dd,dd,ai s.memos.length,ai i,dd,dd,dd,dd,dd,dd,dd,dd,dd,dd,dd,dd,dd,dd,dd,dd,dd,dd],[(1,{next:=2,l:=[some {e:=1,var:=true,fz:=false,sz:=0,cells:=[di s.time,di s.num,di s.token, .own ⟨1,4,1⟩ 0 s.sess.length, .own ⟨1,5,1⟩ 0 s.locks.length, .own ⟨1,6,1⟩ 0 s.memos.length]},none,none,none,some {e:=1,var:=false,fz:=false,sz:=3,cells:=(zaF s.sess).map C.d},some {e:=1,var:=false,fz:=false,sz:=4,cells:=(zah s.locks).map C.d},some {e:=1,var:=false,fz:=false,sz:=6,cells:=(zav s.memos).map C.d}]}),(2,{next:=2,l:=[some {e:=1,var:=true,fz:=false,sz:=0,cells:=[di 0,di 0,di 0, .d (.v (.slice none 0 0)), .d (.v (.slice none 0 0)), .d (.v (.slice none 0 0))]},none,none,none,none,none,none]}),(7,⟨2,[]⟩),(11,⟨2,[]⟩),(28,⟨2,[]⟩),(34,⟨2,[]⟩),(52,⟨2,[]⟩)]⟩)
   (fun i=>i≤s.memos.length) (fun _=>()) (fun i=>s.memos.length - i) 0
   (Gh.canon [1,2] [52] [] zK rfl rfl) (Nat.zero_le _) ?_
  intro i hi0 hF K hK
  refine zw ?_
  refine zaa (fun hlt=> ?_) (fun hge=> ?_)
  ·have hi:i<s.memos.length:=by simpa using hlt
   have hat:=zbu hi
   have hat2:(zav s.memos).drop (i*6+2+3)= .sl s.memos[i].reply.held.length (zaG s.memos[i].reply.held)::zav (s.memos.drop (i+1)):=by rw[Nat.add_assoc,←List.drop_drop,hat];rfl
   have hw:=zan hi (by have:=h.memos;omega)
   have hci:=zcT s.memos[i].reply.held.length (zaG s.memos[i].reply.held) zaW (by have:=(h.held _ (List.getElem_mem hi)).1;omega)
   have hset:=zbP Memo.enc 6 (fun _=>rfl) hi (k:=5) (by decide) (.sl s.memos[i].reply.held.length (zaG s.memos[i].reply.held)) s.memos[i] rfl
   rw[List.set_getElem_self,show i*6+5=i*6+2+3 from rfl]at hset
   repeat'(first|refine zq (I hat2 (I hset (I @zmd (I @List.map_cons.{0,0} @zaj)))) ?_|exact zd (I hat2 (I hset (I @zmd (I @List.map_cons.{0,0} @zaj))))|refine zc (hci) ?_|refine zg (hci) ?_|(refine zaa ?_ ?_<;>intro hb)|(refine And.intro ?_ ?_;exact zI)|(refine And.intro ?_ ?_<;>intro hg)|exact zC|fail)
   exact hK _ (i+1) (Gh.canon [1,2] [] [] (zk hw) rfl rfl) hi rfl (by omega)
  ·have hi:i=s.memos.length:=by
    have:¬(i:Int)<s.memos.length:=by simpa using hge
    omega
   repeat'(first|refine zq0 ?_|exact zd0|(refine zaa ?_ ?_<;>intro hb)|(refine And.intro ?_ ?_;exact zI)|(refine And.intro ?_ ?_<;>intro hg)|exact zC|fail)
   rfl
theorem ziU (gone:List Int) (hg:gone.length<2^62) (x:Sess):CallOK Tryz.prog 77 [.f (zgq x), .f (.one (.eltR [.lent gone.length (zat gone)]))] (fun r o=>r=[rb (hasI gone x.client)]∧o=[]):=by
 refine zac zar mixed (T:=Ty) (n:=8) Tryz.func77 (c:=Tryz.f77.body.getD .skip) rfl Tryz.results77 Tryz.ntmps77 Tryz.call77 ?_
 simp only[Tryz.f77,Option.getD]
 repeat'(first|refine zq0 ?_|exact zd0|refine zc (zbt gone hg x.client) ?_|refine zg (zbt gone hg x.client) ?_|(refine zaa ?_ ?_<;>intro hb)|(refine And.intro ?_ ?_;exact zI)|(refine And.intro ?_ ?_<;>intro hg)|exact zC|fail)
 rfl
abbrev zkt (l:List Sess) (gone:List Int):List Sess:=l.filter fun x=> !hasI gone x.client
theorem zg9 (s:St) (h:Small s) (ht:0≤s.token∧s.token≤zaT) (gone:List Int) (hg:gone.length<2^30):
  CallOK Tryz.prog 39 [.agr [di s.time,di s.num,di s.token] [.d (.sl s.locks.length (zah s.locks)), .d (.sl s.memos.length (zav s.memos))] 3 s.sess.length (zaF s.sess), .f (al gone.length (zat gone))]
  (fun r o=>r=[.agg [.d (iD s.time), .d (iD s.num), .d (iD (s.token+(zbW s.locks gone s.token).2)), .own 3 (zkt s.sess gone).length (zaF (zkt s.sess gone)) true,
   .own 4 (zbW s.locks gone s.token).1.length (zah (zbW s.locks gone s.token).1) false, .d (.sl s.memos.length (zav s.memos))]]∧o=[[]]):=by
 refine zac zar mixed (T:=Ty) (n:=27) Tryz.func39 (c:=Tryz.f39.body.getD .skip) rfl Tryz.results39 Tryz.ntmps39 Tryz.call39 ?_
 simp only[Tryz.f39,Option.getD]
 have hH:zaT=2^61:=by decide
 have hdp:=zsl s.locks h.locks (fun k hk=>(h.line k hk).1) gone hg s.token (by omega)
 have hdf:=znn s.sess (by have:=h.sess;omega) (fun x=>hasI gone x.client) 77 [.eltR [.lent gone.length (zat gone)]] (fun _=>rfl) (fun _=>rfl) (fun _ _=>rfl) (fun _=>rfl) (fun x _=>ziU gone (by omega) x)
 obtain⟨⟨g1,g2⟩,_⟩:=zcL gone s.token (s.locks.map (zaq gone)) 0 (Int.le_refl _)
 have g1:0≤(zbW s.locks gone s.token).2:=g1
 have g2:(zbW s.locks gone s.token).2≤0+(s.locks.map (zaq gone)).length:=g2
 rw[List.length_map]at g2
 have hw:IntKind.i64.wrap (s.token+(zbW s.locks gone s.token).2)=s.token+(zbW s.locks gone s.token).2:=wrap64 (by omega) (by have:=h.locks;omega)
 repeat'(first|refine zq hw ?_|exact zd hw|refine zc (hdp) ?_|refine zg (hdp) ?_|(refine zaa ?_ ?_<;>intro hb)|(refine And.intro ?_ ?_;exact zI)|(refine And.intro ?_ ?_<;>intro hg)|exact zC|fail)
 refine zbK (mv:= ?mv1) (lent:= ?le1) 0 ?ha1 (hdf) ?hb1 ?hc1
 case ha1=>(try simp only[zB,zaE,Nat.reduceSub,Nat.reduceEqDiff,Nat.reduceAdd,Nat.reduceMul,Nat.reduceLeDiff,Nat.reduceLT,Nat.reduceBEq,reduceCtorEq]);exact rfl
 case hb1=>(try simp only[zB,scM,Nat.reduceSub,Nat.reduceEqDiff,Nat.reduceAdd,Nat.reduceMul,Nat.reduceLeDiff,Nat.reduceLT,Nat.reduceBEq,reduceCtorEq]);repeat'(first|rfl|trivial|omega|with_reducible refine And.intro ?_ ?_)
 show aops _ _ _ _ _ _ _ _
 repeat'(first|refine zq0 ?_|exact zd0|(refine zaa ?_ ?_<;>intro hb)|(refine And.intro ?_ ?_;exact zI)|(refine And.intro ?_ ?_<;>intro hg)|exact zC|fail)
 rfl
theorem ziV {s:St} (h:Small s) (now lease:Int):(zhU s.sess now lease).length<2^30:=by
 unfold zhU
 split
 ·simp
 ·rw[List.length_map]
  exact Nat.lt_of_le_of_lt (List.length_filter_le ..) h.sess
set_option maxHeartbeats 1000000 in
theorem zmc (s:St) (h:Small s) (hr:RightS s) (time lease:Int):CallOK Tryz.prog 13 [.f (.agg s.lent), .f (ai time), .f (ai lease)]
  (fun r o=>r=[znc (zbk s time lease)]∧o=[]):=by
 refine CallOK.nil ?_
 refine zac zar mixed (T:=Ty) (n:=28) Tryz.func13 (c:=Tryz.f13.body.getD .skip) rfl Tryz.results13 Tryz.ntmps13 Tryz.call13 ?_
 simp only[Tryz.f13,Option.getD]
 have hcp:=ziT s h
 have h':Small {s with time:=zb8 s time}:=⟨h.sess,h.locks,h.memos,h.line,h.held⟩
 have hdu:=ztl s.sess h.sess (zb8 s time) (max lease 1) (fun x hx=>(zb2.1 (hr.sok x hx).1).2.2)
 have hwo:=zg9 {s with time:=zb8 s time} h' hr.token (zhU s.sess (zb8 s time) (max lease 1)) (ziV h _ _)
 cases ha:decide (time>s.time)&&decide (time≤2305843009213693952)
 ·have htp:zb8 s time=s.time:=by unfold zb8;rw[show(decide (time>s.time)&&decide (time≤zaT))=false from ha];rfl
  rw[htp]at hdu hwo
  repeat'(first|(with_reducible first|refine zaZ 4 ?_|refine zaK 4 ?_|refine zaL 4 ?_)|refine zu ha ?_|exact zd ha|(with_reducible first|refine zab _ _ ?_)|refine zc (hcp) ?_|refine zg (hcp) ?_|(refine zaa ?_ ?_<;>intro hb)|(refine And.intro ?_ ?_;exact zI)|(refine And.intro ?_ ?_<;>intro hg)|exact zC|fail)
  refine za3 (za0 (Gh.sealF 3 4 (.own ⟨3,5,11⟩ 0 s.locks.length) ?_) ?_)
  ·exact zo0
  refine zf0 ?_
  refine za0 (Gh.sealF 3 5 (.own ⟨3,6,12⟩ 0 s.memos.length) ?_) ?_
  ·exact zo0
  refine zf0 ?_
  repeat'(first|(with_reducible first|refine zab _ _ ?_|refine zaP ?_|refine zaQ ?_)|rw[zak]|simp only[zeC,zY,Int.reduceEq,Int.reduceBEq,Int.reduceBNe,Nat.reduceSub,Nat.reduceEqDiff,Nat.reduceAdd,Nat.reduceMul,Nat.reduceLeDiff,Nat.reduceLT,Nat.reduceBEq,reduceCtorEq]|((first|((try refine zaz ?_);apply zaD)|(apply zaB;intro _));(solve|exact(hdu)|(refine CallOK.le (hdu) ?_;exact zM)|fail);try case hn=>rfl)|refine zam ?_|refine zaa (fun hb=> ?_) (fun hb=> ?_)|(refine And.intro ?_ ?_;exact zI)|refine And.intro (fun hg=> ?_) (fun hg=> ?_)|exact zC|fail)
  refine zbK (mv:= ?mv2) (lent:= ?le2) 0 ?ha2 (hwo) ?hb2 ?hc2
  case ha2=>(try simp only[zaE,zY,List.contains_nil,Nat.reduceSub,Nat.reduceEqDiff,Nat.reduceAdd,Nat.reduceMul,Nat.reduceLeDiff,Nat.reduceLT,Nat.reduceBEq,reduceCtorEq]);exact rfl
  case hb2=>(try simp only[scM,zY,List.contains_nil,Nat.reduceSub,Nat.reduceEqDiff,Nat.reduceAdd,Nat.reduceMul,Nat.reduceLeDiff,Nat.reduceLT,Nat.reduceBEq,reduceCtorEq]);repeat'(first|rfl|trivial|omega|with_reducible refine And.intro ?_ ?_)
  show aops _ _ _ _ _ _ _ _
  repeat'(first|refine zq0 ?_|exact zd0|(refine zaa ?_ ?_<;>intro hb)|(refine And.intro ?_ ?_;exact zI)|(refine And.intro ?_ ?_<;>intro hg)|exact zC|fail)
  refine⟨rfl, ?_⟩
  have hav:zbk s time lease=zbd {s with time:=s.time} (zhU s.sess s.time (max lease 1)):=by unfold zbk;rw[htp]
  rw[hav]
  exact⟨⟨.inl rfl, .inl rfl, .inl rfl, .inr ⟨rfl,rfl,zai⟩, .inr ⟨rfl,rfl,zad⟩, .inl rfl,trivial⟩,trivial⟩
 ·have htp:zb8 s time=time:=by unfold zb8;rw[show(decide (time>s.time)&&decide (time≤zaT))=true from ha];rfl
  rw[htp]at hdu hwo
  repeat'(first|(with_reducible first|refine zaZ 4 ?_|refine zaK 4 ?_|refine zaL 4 ?_)|refine zu ha ?_|exact zd ha|(with_reducible first|refine zab _ _ ?_)|refine zc (hcp) ?_|refine zg (hcp) ?_|(refine zaa ?_ ?_<;>intro hb)|(refine And.intro ?_ ?_;exact zI)|(refine And.intro ?_ ?_<;>intro hg)|exact zC|fail)
  refine za3 (za0 (Gh.sealF 3 4 (.own ⟨3,5,11⟩ 0 s.locks.length) ?_) ?_)
  ·exact zo0
  refine zf0 ?_
  refine za0 (Gh.sealF 3 5 (.own ⟨3,6,12⟩ 0 s.memos.length) ?_) ?_
  ·exact zo0
  refine zf0 ?_
  repeat'(first|(with_reducible first|refine zab _ _ ?_|refine zaP ?_|refine zaQ ?_)|rw[zak]|simp only[zeC,zY,Int.reduceEq,Int.reduceBEq,Int.reduceBNe,Nat.reduceSub,Nat.reduceEqDiff,Nat.reduceAdd,Nat.reduceMul,Nat.reduceLeDiff,Nat.reduceLT,Nat.reduceBEq,reduceCtorEq]|((first|((try refine zaz ?_);apply zaD)|(apply zaB;intro _));(solve|exact(hdu)|(refine CallOK.le (hdu) ?_;exact zM)|fail);try case hn=>rfl)|refine zam ?_|refine zaa (fun hb=> ?_) (fun hb=> ?_)|(refine And.intro ?_ ?_;exact zI)|refine And.intro (fun hg=> ?_) (fun hg=> ?_)|exact zC|fail)
  refine zbK (mv:= ?mv3) (lent:= ?le3) 0 ?ha3 (hwo) ?hb3 ?hc3
  case ha3=>(try simp only[zaE,zY,List.contains_nil,Nat.reduceSub,Nat.reduceEqDiff,Nat.reduceAdd,Nat.reduceMul,Nat.reduceLeDiff,Nat.reduceLT,Nat.reduceBEq,reduceCtorEq]);exact rfl
  case hb3=>(try simp only[scM,zY,List.contains_nil,Nat.reduceSub,Nat.reduceEqDiff,Nat.reduceAdd,Nat.reduceMul,Nat.reduceLeDiff,Nat.reduceLT,Nat.reduceBEq,reduceCtorEq]);repeat'(first|rfl|trivial|omega|with_reducible refine And.intro ?_ ?_)
  show aops _ _ _ _ _ _ _ _
  repeat'(first|refine zq0 ?_|exact zd0|(refine zaa ?_ ?_<;>intro hb)|(refine And.intro ?_ ?_;exact zI)|(refine And.intro ?_ ?_<;>intro hg)|exact zC|fail)
  refine⟨rfl, ?_⟩
  have hav:zbk s time lease=zbd {s with time:=time} (zhU s.sess time (max lease 1)):=by unfold zbk;rw[htp]
  rw[hav]
  exact⟨⟨.inl rfl, .inl rfl, .inl rfl, .inr ⟨rfl,rfl,zai⟩, .inr ⟨rfl,rfl,zad⟩, .inl rfl,trivial⟩,trivial⟩
abbrev zv2 (b:St) (x:Sess):Bool:= !((zaC b.sess x.client).any fun y=>y.num==x.num)
abbrev zpm (s:St):AV:= .agg ((stE s).map C.d)
set_option maxHeartbeats 1000000 in
theorem znb (s:St) (h:Small s) (hr:RightS s) (c:Int) (hc:isClient c=true):CallOK Tryz.prog 81 [.f (zpm s), .f (ai c)]
  (fun r o=>r=[znc (zbr s c).1,zez (zbr s c).2]∧o=[]):=by
 refine CallOK.nil ?_
 refine zac zar mixed (T:=Ty) (n:=57) Tryz.func81 (c:=Tryz.f81.body.getD .skip) rfl Tryz.results81 Tryz.ntmps81 Tryz.call81 ?_
 simp only[Tryz.f81,Option.getD]
 have hfi:=zlS s.sess hr.ss (by have:=h.sess;omega) c
 have hhe:=ziy s.locks h.locks c
 have hn:=hr.num
 have hH:zaT=2^61:=by decide
 have hw:IntKind.i64.wrap (s.num+1)=s.num+1:=wrap64 (by omega) (by omega)
 cases hf:zaC s.sess c with
 |some x=>
  rw[hf]at hfi
  simp only[Option.isSome_some,Option.getD_some]at hfi
  have ho:zbr s c=(s,⟨7,x.num,0,za7 s.locks c⟩):=by unfold zbr;rw[hf]
  rw[ho]
  repeat'(first|refine zq0 ?_|exact zd0|refine zc (hfi) ?_|refine zg (hfi) ?_|refine zc (hhe) ?_|refine zg (hhe) ?_|(refine zaa ?_ ?_<;>intro hb)|(refine And.intro ?_ ?_;exact zI)|(refine And.intro ?_ ?_<;>intro hg)|exact zC|fail)
  simp[zbg,zdg,zbp,zaY]
 |none=>
  rw[hf]at hfi
  simp only[Option.isSome_none,Option.getD_none]at hfi
  have hop:=zsk s.sess hr.ss h.sess c (s.num+1) s.time hc (by omega) hr.time hf (zdx hr)
  have ho:zbr s c=if((zbR s.sess c (s.num+1) s.time).2 !=0)=true then(s,⟨(zbR s.sess c (s.num+1) s.time).2,0,0,[]⟩)else
    ({s with sess:=(zbR s.sess c (s.num+1) s.time).1,num:=s.num+1},⟨0,s.num+1,0,za7 s.locks c⟩):=by unfold zbr;rw[hf];simp only[bne_iff_ne]
  cases he:(zbR s.sess c (s.num+1) s.time).2 !=0
  ·rw[he,if_neg (by simp)]at ho
   rw[ho]
   repeat'(first|(with_reducible first|refine zaZ 9 ?_|refine zaK 9 ?_|refine zaL 9 ?_)|refine zu (I hw he) ?_|exact zd (I hw he)|(with_reducible first|refine zab _ _ ?_)|refine zc (hfi) ?_|refine zg (hfi) ?_|refine zc (hhe) ?_|refine zg (hhe) ?_|refine zc (hop) ?_|refine zg (hop) ?_|(refine zaa ?_ ?_<;>intro hb)|(refine And.intro ?_ ?_;exact zI)|(refine And.intro ?_ ?_<;>intro hg)|exact zC|fail)
   refine za3 (za0 (Gh.sealF 2 3 (.own ⟨2,4,7⟩ 0 (zbR s.sess c (s.num+1) s.time).1.length) ?_) ?_)
   ·exact zo0
   refine zf0 ?_
   repeat'(first|refine zq hw ?_|exact zd hw|refine zc (hhe) ?_|refine zg (hhe) ?_|(refine zaa ?_ ?_<;>intro hb)|(refine And.intro ?_ ?_;exact zI)|(refine And.intro ?_ ?_<;>intro hg)|exact zC|fail)
   simp[zbg,zdg,zbp,zaY]
  ·rw[he,if_pos rfl]at ho
   rw[ho]
   repeat'(first|refine zq (I hw he) ?_|exact zd (I hw he)|refine zc (hfi) ?_|refine zg (hfi) ?_|refine zc (hhe) ?_|refine zg (hhe) ?_|refine zc (hop) ?_|refine zg (hop) ?_|(refine zaa ?_ ?_<;>intro hb)|(refine And.intro ?_ ?_;exact zI)|(refine And.intro ?_ ?_<;>intro hg)|exact zC|fail)
   simp[zbg,zdg,zbp,zaY]
theorem ziQ (l:List Lk) (name:ByteArray) (c t:Int) (w:Bool):(zaH l name c t w).1.length≤l.length+1:=by
 unfold zaH
 cases zcc l name with
 |none=>
  simp only
  split
  ·simp
  ·exact Nat.le_of_eq (zh0 zb9 _)
 |some k=>
  simp only
  repeat' split
  all_goals simp
theorem ziR (l:List Lk) (name:ByteArray) (c t:Int):(za2 l name c t).1.length≤l.length:=by
 unfold za2
 cases zcc l name with
 |none=>simp
 |some k=>
  simp only
  split
  ·unfold zco
   split
   ·simp only;rw[List.length_eraseIdx];split<;>omega
   ·simp
  ·split<;>simp
theorem ziS (l:List Lk) (name:ByteArray) (c t:Int):0≤(za2 l name c t).2.1∧(za2 l name c t).2.1≤1:=by
 unfold za2
 cases zcc l name with
 |none=>simp
 |some k=>
  simp only
  split
  ·unfold zco
   split<;>simp
  ·split<;>simp
set_option maxHeartbeats 4000000 in
theorem zrw (s:St) (h:Small s) (hr:RightS s) (r:Req) (hm:Req.may r=true):CallOK Tryz.prog 45 [.f (zpm s), .f (.agg (r.enc.map C.d))]
  (fun x o=>x=[znc (zaV s r).1,zez (zaV s r).2]∧o=[]):=by
 refine CallOK.nil ?_
 refine zac zar mixed (T:=Ty) (n:=143) Tryz.func45 (c:=Tryz.f45.body.getD .skip) rfl Tryz.results45 Tryz.ntmps45 Tryz.call45 ?_
 simp only[Tryz.f45,Option.getD]
 obtain⟨hc,_,hnm⟩:=zgg hm
 have hfi:=zlS s.sess hr.ss (by have:=h.sess;omega) r.client
 have hT:=hr.token
 have hH:zaT=2^61:=by decide
 have hll:∀k∈s.locks,k.line.length<2^30:=fun k hk=>(h.line k hk).1
 cases h1:r.kind==1
 ·cases hf:zaC s.sess r.client with
  |none=>
   rw[hf]at hfi
   simp only[Option.isSome_none,Option.getD_none]at hfi
   have hd:zaV s r=(s,⟨9,0,0,[]⟩):=by unfold zaV;rw[if_neg (by rw[h1];simp),hf]
   rw[hd]
   repeat'(first|refine zq h1 ?_|exact zd h1|refine zc (hfi) ?_|refine zg (hfi) ?_|(refine zaa ?_ ?_<;>intro hb)|(refine And.intro ?_ ?_;exact zI)|(refine And.intro ?_ ?_<;>intro hg)|exact zC|fail)
   all_goals simp[zbg,zdg,zbp,zaY]
  |some x=>
   rw[hf]at hfi
   simp only[Option.isSome_some,Option.getD_some]at hfi
   cases hx:x.num !=r.session
   ·have hrn:=zqk s.sess hr.ss h.sess r.client s.time hr.time (by rw[hf];rfl)
    have hwt:IntKind.i64.wrap (s.token+1)=s.token+1:=wrap64 (by omega) (by omega)
    have hd0:zaV s r=if(r.kind==3||r.kind==4)=true then
      (if((zaH s.locks r.name r.client s.token (r.kind==3)).2.2==0)=true then(⟨s.time,s.num,s.token+1,(zbf s.sess r.client s.time).1,(zaH s.locks r.name r.client s.token (r.kind==3)).1,s.memos⟩,⟨(zaH s.locks r.name r.client s.token (r.kind==3)).2.2,x.num,0,za7 (zaH s.locks r.name r.client s.token (r.kind==3)).1 r.client⟩)
      else if((zaH s.locks r.name r.client s.token (r.kind==3)).2.2==10)=true then(⟨s.time,s.num,s.token,(zbf s.sess r.client s.time).1,(zaH s.locks r.name r.client s.token (r.kind==3)).1,s.memos⟩,⟨(zaH s.locks r.name r.client s.token (r.kind==3)).2.2,x.num,(zaH s.locks r.name r.client s.token (r.kind==3)).2.1,za7 (zaH s.locks r.name r.client s.token (r.kind==3)).1 r.client⟩)
      else(⟨s.time,s.num,s.token,(zbf s.sess r.client s.time).1,s.locks,s.memos⟩,⟨(zaH s.locks r.name r.client s.token (r.kind==3)).2.2,x.num,0,za7 s.locks r.client⟩))
     else if(r.kind==5)=true then
      (if((za2 s.locks r.name r.client s.token).2.2==0)=true then(⟨s.time,s.num,s.token+(za2 s.locks r.name r.client s.token).2.1,(zbf s.sess r.client s.time).1,(za2 s.locks r.name r.client s.token).1,s.memos⟩,⟨(za2 s.locks r.name r.client s.token).2.2,x.num,0,za7 (za2 s.locks r.name r.client s.token).1 r.client⟩)
      else(⟨s.time,s.num,s.token,(zbf s.sess r.client s.time).1,s.locks,s.memos⟩,⟨(za2 s.locks r.name r.client s.token).2.2,x.num,0,za7 s.locks r.client⟩))
     else if(r.kind==6)=true then(zbd ⟨s.time,s.num,s.token,(zbf s.sess r.client s.time).1,s.locks,s.memos⟩ [r.client],⟨0,0,0,[]⟩)
     else(⟨s.time,s.num,s.token,(zbf s.sess r.client s.time).1,s.locks,s.memos⟩,⟨0,x.num,0,za7 s.locks r.client⟩):=by
     unfold zaV
     rw[if_neg (by rw[h1];simp),hf]
     simp only
     rw[if_neg (by rw[hx];simp)]
     split
     ·by_cases e0:(zaH s.locks r.name r.client s.token (r.kind==3)).2.2=0
      ·rw[if_pos e0,if_neg (by rw[e0];decide),if_pos (by simpa using e0)]
      ·by_cases e10:(zaH s.locks r.name r.client s.token (r.kind==3)).2.2=10
       ·rw[if_neg e0,if_pos e10,if_pos e10,if_neg (by simpa using e0),if_pos (by simpa using e10)]
       ·rw[if_neg e0,if_neg e10,if_neg e10,if_neg (by simpa using e0),if_neg (by simpa using e10)]
     ·split
      ·by_cases e0:(za2 s.locks r.name r.client s.token).2.2=0
       ·rw[if_pos e0,if_pos (by simpa using e0)]
       ·rw[if_neg e0,if_neg (by simpa using e0)]
      ·rfl
    have htl:=ziQ s.locks r.name r.client s.token (r.kind==3)
    have hfl:=ziR s.locks r.name r.client s.token
    have hnl:=hr.ll
    have hta:=zsh s.locks hr.ls h.locks hll r.name r.client s.token (by omega) (r.kind==3)
    have hfr:=zsi s.locks hr.ls h.locks hll r.name r.client s.token (by omega)
    have hhs:=ziy s.locks h.locks r.client
    have hht:=ziy (zaH s.locks r.name r.client s.token (r.kind==3)).1 (by omega) r.client
    have hhf:=ziy (za2 s.locks r.name r.client s.token).1 (by omega) r.client
    have hrl:(zaF (zbf s.sess r.client s.time).1).length=(zbf s.sess r.client s.time).1.length*3:=zai
    cases h3:r.kind==3
    ·rw[h3]at hta hht
     rw[h3,Bool.false_or]at hd0
     cases h4:r.kind==4
     ·rw[h4,if_neg (by simp)]at hd0
      cases h5:r.kind==5
      ·rw[h5,if_neg (by simp)]at hd0
       cases h6:r.kind==6
       ·rw[h6,if_neg (by simp)]at hd0
        rw[hd0]
        repeat'(first|refine zq (I h1 (I hx (I h3 (I h4 (I h5 h6))))) ?_|exact zd (I h1 (I hx (I h3 (I h4 (I h5 h6)))))|refine zc (hfi) ?_|refine zg (hfi) ?_|refine zc (hrn) ?_|refine zg (hrn) ?_|refine zc (hhs) ?_|refine zg (hhs) ?_|(refine zaa ?_ ?_<;>intro hb)|(refine And.intro ?_ ?_;exact zI)|(refine And.intro ?_ ?_<;>intro hg)|exact zC|fail)
        exact⟨rfl,⟨.inl rfl, .inl rfl, .inl rfl, .inr ⟨rfl,rfl,hrl⟩, .inl rfl, .inl rfl,trivial⟩,⟨.inl rfl, .inl rfl, .inl rfl, .inl rfl,trivial⟩,trivial⟩
       ·rw[h6,if_pos rfl]at hd0
        rw[hd0]
        have hwo:=zg9 ⟨s.time,s.num,s.token,(zbf s.sess r.client s.time).1,s.locks,s.memos⟩ ⟨by rw[zdK hr hf];simp only[List.length_set];exact h.sess,h.locks,h.memos,h.line,h.held⟩ hr.token [r.client] (by simp)
        repeat'(first|refine zq (I h1 (I hx (I h3 (I h4 (I h5 h6))))) ?_|exact zd (I h1 (I hx (I h3 (I h4 (I h5 h6)))))|refine zc (hfi) ?_|refine zg (hfi) ?_|refine zc (hrn) ?_|refine zg (hrn) ?_|(refine zaa ?_ ?_<;>intro hb)|(refine And.intro ?_ ?_;exact zI)|(refine And.intro ?_ ?_<;>intro hg)|exact zC|fail)
        refine zbK (mv:= ?mv1) (lent:= ?le1) 0 ?ha1 (hwo) ?hb1 ?hc1
        case ha1=>(try simp only[zaE,zY,List.contains_nil,Nat.reduceSub,Nat.reduceEqDiff,Nat.reduceAdd,Nat.reduceMul,Nat.reduceLeDiff,Nat.reduceLT,Nat.reduceBEq,reduceCtorEq]);exact rfl
        case hb1=>(try simp only[scM,zY,List.contains_nil,Nat.reduceSub,Nat.reduceEqDiff,Nat.reduceAdd,Nat.reduceMul,Nat.reduceLeDiff,Nat.reduceLT,Nat.reduceBEq,reduceCtorEq]);repeat'(first|rfl|trivial|omega|with_reducible refine And.intro ?_ ?_)
        show aops _ _ _ _ _ _ _ _
        repeat'(first|refine zq0 ?_|exact zd0|(refine zaa ?_ ?_<;>intro hb)|(refine And.intro ?_ ?_;exact zI)|(refine And.intro ?_ ?_<;>intro hg)|exact zC|fail)
        exact⟨rfl,⟨.inl rfl, .inl rfl, .inl rfl, .inr ⟨rfl,rfl,zai⟩, .inr ⟨rfl,rfl,zad⟩, .inl rfl,trivial⟩,⟨.inl rfl, .inl rfl, .inl rfl, .inr ⟨rfl,rfl⟩,trivial⟩,trivial⟩
      ·rw[h5,if_pos rfl]at hd0
       generalize hT0:za2 s.locks r.name r.client s.token=T at*
       cases e0:T.2.2==0
       ·rw[e0,if_neg (by simp)]at hd0
        rw[hd0]
        repeat'(first|refine zq (I h1 (I hx (I h3 (I h4 (I h5 e0))))) ?_|exact zd (I h1 (I hx (I h3 (I h4 (I h5 e0)))))|refine zc (hfi) ?_|refine zg (hfi) ?_|refine zc (hrn) ?_|refine zg (hrn) ?_|refine zc (hfr) ?_|refine zg (hfr) ?_|refine zc (hhs) ?_|refine zg (hhs) ?_|(refine zaa ?_ ?_<;>intro hb)|(refine And.intro ?_ ?_;exact zI)|(refine And.intro ?_ ?_<;>intro hg)|exact zC|fail)
        exact⟨rfl,⟨.inl rfl, .inl rfl, .inl rfl, .inr ⟨rfl,rfl,hrl⟩, .inl rfl, .inl rfl,trivial⟩,⟨.inl rfl, .inl rfl, .inl rfl, .inl rfl,trivial⟩,trivial⟩
       ·rw[e0,if_pos rfl]at hd0
        have hwf:IntKind.i64.wrap (s.token+T.2.1)=s.token+T.2.1:=by
         have:=ziS s.locks r.name r.client s.token
         rw[hT0]at this
         exact wrap64 (by omega) (by omega)
        rw[hd0]
        repeat'(first|refine zq (I h1 (I hx (I h3 (I h4 (I h5 (I e0 hwf)))))) ?_|exact zd (I h1 (I hx (I h3 (I h4 (I h5 (I e0 hwf))))))|refine zc (hfi) ?_|refine zg (hfi) ?_|refine zc (hrn) ?_|refine zg (hrn) ?_|refine zc (hfr) ?_|refine zg (hfr) ?_|refine zc (hhf) ?_|refine zg (hhf) ?_|(refine zaa ?_ ?_<;>intro hb)|(refine And.intro ?_ ?_;exact zI)|(refine And.intro ?_ ?_<;>intro hg)|exact zC|fail)
        exact⟨rfl,⟨.inl rfl, .inl rfl, .inl rfl, .inr ⟨rfl,rfl,hrl⟩, .inr ⟨rfl,rfl,zad⟩, .inl rfl,trivial⟩,⟨.inl rfl, .inl rfl, .inl rfl, .inl rfl,trivial⟩,trivial⟩
     ·rw[h4,if_pos rfl]at hd0
      generalize hT0:zaH s.locks r.name r.client s.token false=T at*
      cases e0:T.2.2==0
      ·cases e10:T.2.2==10
       ·rw[e0,if_neg (by simp),e10,if_neg (by simp)]at hd0
        rw[hd0]
        repeat'(first|refine zq (I h1 (I hx (I h3 (I h4 (I e0 (I e10 hwt)))))) ?_|exact zd (I h1 (I hx (I h3 (I h4 (I e0 (I e10 hwt))))))|refine zc (hfi) ?_|refine zg (hfi) ?_|refine zc (hrn) ?_|refine zg (hrn) ?_|refine zc (hta) ?_|refine zg (hta) ?_|refine zc (hhs) ?_|refine zg (hhs) ?_|(refine zaa ?_ ?_<;>intro hb)|(refine And.intro ?_ ?_;exact zI)|(refine And.intro ?_ ?_<;>intro hg)|exact zC|fail)
        exact⟨rfl,⟨.inl rfl, .inl rfl, .inl rfl, .inr ⟨rfl,rfl,hrl⟩, .inl rfl, .inl rfl,trivial⟩,⟨.inl rfl, .inl rfl, .inl rfl, .inl rfl,trivial⟩,trivial⟩
       ·rw[e0,if_neg (by simp),e10,if_pos rfl]at hd0
        rw[hd0]
        repeat'(first|refine zq (I h1 (I hx (I h3 (I h4 (I e0 (I e10 hwt)))))) ?_|exact zd (I h1 (I hx (I h3 (I h4 (I e0 (I e10 hwt))))))|refine zc (hfi) ?_|refine zg (hfi) ?_|refine zc (hrn) ?_|refine zg (hrn) ?_|refine zc (hta) ?_|refine zg (hta) ?_|refine zc (hht) ?_|refine zg (hht) ?_|(refine zaa ?_ ?_<;>intro hb)|(refine And.intro ?_ ?_;exact zI)|(refine And.intro ?_ ?_<;>intro hg)|exact zC|fail)
        exact⟨rfl,⟨.inl rfl, .inl rfl, .inl rfl, .inr ⟨rfl,rfl,hrl⟩, .inr ⟨rfl,rfl,zad⟩, .inl rfl,trivial⟩,⟨.inl rfl, .inl rfl, .inl rfl, .inl rfl,trivial⟩,trivial⟩
      ·rw[e0,if_pos rfl]at hd0
       rw[hd0]
       repeat'(first|refine zq (I h1 (I hx (I h3 (I h4 (I e0 hwt))))) ?_|exact zd (I h1 (I hx (I h3 (I h4 (I e0 hwt)))))|refine zc (hfi) ?_|refine zg (hfi) ?_|refine zc (hrn) ?_|refine zg (hrn) ?_|refine zc (hta) ?_|refine zg (hta) ?_|refine zc (hht) ?_|refine zg (hht) ?_|(refine zaa ?_ ?_<;>intro hb)|(refine And.intro ?_ ?_;exact zI)|(refine And.intro ?_ ?_<;>intro hg)|exact zC|fail)
       exact⟨rfl,⟨.inl rfl, .inl rfl, .inl rfl, .inr ⟨rfl,rfl,hrl⟩, .inr ⟨rfl,rfl,zad⟩, .inl rfl,trivial⟩,⟨.inl rfl, .inl rfl, .inl rfl, .inl rfl,trivial⟩,trivial⟩
    ·rw[h3]at hta hht
     rw[h3,Bool.true_or,if_pos rfl]at hd0
     generalize hT0:zaH s.locks r.name r.client s.token true=T at*
     cases e0:T.2.2==0
     ·cases e10:T.2.2==10
      ·rw[e0,if_neg (by simp),e10,if_neg (by simp)]at hd0
       rw[hd0]
       repeat'(first|refine zq (I h1 (I hx (I h3 (I e0 (I e10 hwt))))) ?_|exact zd (I h1 (I hx (I h3 (I e0 (I e10 hwt)))))|refine zc (hfi) ?_|refine zg (hfi) ?_|refine zc (hrn) ?_|refine zg (hrn) ?_|refine zc (hta) ?_|refine zg (hta) ?_|refine zc (hhs) ?_|refine zg (hhs) ?_|(refine zaa ?_ ?_<;>intro hb)|(refine And.intro ?_ ?_;exact zI)|(refine And.intro ?_ ?_<;>intro hg)|exact zC|fail)
       exact⟨rfl,⟨.inl rfl, .inl rfl, .inl rfl, .inr ⟨rfl,rfl,hrl⟩, .inl rfl, .inl rfl,trivial⟩,⟨.inl rfl, .inl rfl, .inl rfl, .inl rfl,trivial⟩,trivial⟩
      ·rw[e0,if_neg (by simp),e10,if_pos rfl]at hd0
       rw[hd0]
       repeat'(first|refine zq (I h1 (I hx (I h3 (I e0 (I e10 hwt))))) ?_|exact zd (I h1 (I hx (I h3 (I e0 (I e10 hwt)))))|refine zc (hfi) ?_|refine zg (hfi) ?_|refine zc (hrn) ?_|refine zg (hrn) ?_|refine zc (hta) ?_|refine zg (hta) ?_|refine zc (hht) ?_|refine zg (hht) ?_|(refine zaa ?_ ?_<;>intro hb)|(refine And.intro ?_ ?_;exact zI)|(refine And.intro ?_ ?_<;>intro hg)|exact zC|fail)
       exact⟨rfl,⟨.inl rfl, .inl rfl, .inl rfl, .inr ⟨rfl,rfl,hrl⟩, .inr ⟨rfl,rfl,zad⟩, .inl rfl,trivial⟩,⟨.inl rfl, .inl rfl, .inl rfl, .inl rfl,trivial⟩,trivial⟩
     ·rw[e0,if_pos rfl]at hd0
      rw[hd0]
      repeat'(first|refine zq (I h1 (I hx (I h3 (I e0 hwt)))) ?_|exact zd (I h1 (I hx (I h3 (I e0 hwt))))|refine zc (hfi) ?_|refine zg (hfi) ?_|refine zc (hrn) ?_|refine zg (hrn) ?_|refine zc (hta) ?_|refine zg (hta) ?_|refine zc (hht) ?_|refine zg (hht) ?_|(refine zaa ?_ ?_<;>intro hb)|(refine And.intro ?_ ?_;exact zI)|(refine And.intro ?_ ?_<;>intro hg)|exact zC|fail)
      exact⟨rfl,⟨.inl rfl, .inl rfl, .inl rfl, .inr ⟨rfl,rfl,hrl⟩, .inr ⟨rfl,rfl,zad⟩, .inl rfl,trivial⟩,⟨.inl rfl, .inl rfl, .inl rfl, .inl rfl,trivial⟩,trivial⟩
   ·have hd:zaV s r=(s,⟨9,0,0,[]⟩):=by unfold zaV;rw[if_neg (by rw[h1];simp),hf];simp only;rw[if_pos hx]
    rw[hd]
    repeat'(first|refine zq (I h1 hx) ?_|exact zd (I h1 hx)|refine zc (hfi) ?_|refine zg (hfi) ?_|(refine zaa ?_ ?_<;>intro hb)|(refine And.intro ?_ ?_;exact zI)|(refine And.intro ?_ ?_<;>intro hg)|exact zC|fail)
    all_goals simp[zbg,zdg,zbp,zaY]
 ·have hop:=znb s h hr r.client hc
  have hd:zaV s r=zbr s r.client:=by unfold zaV;rw[if_pos h1]
  rw[hd]
  repeat'(first|refine zq h1 ?_|exact zd h1|refine zc (hfi) ?_|refine zg (hfi) ?_|refine zc (hop) ?_|refine zg (hop) ?_|(refine zaa ?_ ?_<;>intro hb)|(refine And.intro ?_ ?_;exact zI)|(refine And.intro ?_ ?_<;>intro hg)|exact zC|fail)
  all_goals simp[zbg,zdg,zbp,zaY]
end Go.Proofs.YtngleemijkaeoaaGreat
