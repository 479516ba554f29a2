import Derived.Test.YtliimajkpggbhaaGreatMX
namespace Go.Proofs.YtliimajkpggbhaaGreat
open Go.Pk
set_option maxRecDepth 100000
set_option linter.unusedSimpArgs false
set_option linter.unusedVariables false
def zmC (a b:Req):Bool:=(a.client==b.client)&&((a.seq==b.seq)&&((a.kind==b.kind)&&((a.session==b.session)&&(a.name.toList==b.name.toList))))
def eqBa (a b:Batch):Bool:=(a.fill==b.fill)&&(a.view==b.view)&&((a.tip.view==b.tip.view)&&(a.tip.slot==b.tip.slot))&&(a.time==b.time)&&sameL zmC a.reqs b.reqs
def zut (a b:Vote):Bool:=(a.slot==b.slot)&&(a.ballot==b.ballot)&&eqBa a.batch b.batch
def zzx (a b:Prom):Bool:=(a.src==b.src)&&(a.done==b.done)&&((a.tip.view==b.tip.view)&&(a.tip.slot==b.tip.slot))&&(a.time==b.time)&&sameL zut a.votes b.votes
set_option maxHeartbeats 1000000 in
theorem zwu (a b:List Req) (ha:a.length<2^30) (hb:b.length<2^30):CallOK Tryz.prog 124 [.f (al a.length (zbS a)), .f (al b.length (zbS b))] (fun r o=>r=[rb (sameL zmC a b)]∧o=[]):=by
 refine zh Tryz.func124 Tryz.results124 Tryz.ntmps124 Tryz.call124 ?_
 simp only[Tryz.f124,Option.getD]
 cases hl:((a.length:Int) !=(b.length:Int))
 ·obtain⟨hle,hsr⟩:=zc0 (eq:=zmC) hl
  rw[hsr]
  refine zL0 hl ?_
  refine zai (τ:=Nat) (fun i=>⟨(al a.length (zbS a)::al b.length (zbS b)::zr8 (ai a.length::ai i::zrP [])),[]⟩)
   (fun i=>i≤a.length) (fun i=>zfo zmC a b i) (fun i=>a.length - i) 0
   (Gh.canon [] [] [] zK rfl rfl) (Nat.zero_le _) ?_
  intro i hi0 hF K hK
  refine zw ?_
  refine zaa (fun hlt=> ?_) (fun hge=> ?_)
  ·have hi:i<a.length:=by simpa using hlt
   have hi2:i<b.length:=by omega
   have hat:=zfC hi
   have hat2:=zfC hi2
   have hw:=zal hi (by omega)
   have hlb:decide ((i:Int)<a.length)=true:=by simp;omega
   have hst:=zbR (eq:=zmC) hi hi2
   cases hq:zmC a[i] b[i]
   ·rw[hq]at hst
    have he:((a[i].client==b[i].client)&&((a[i].seq==b[i].seq)&&((a[i].kind==b[i].kind)&&((a[i].session==b[i].session)&&(a[i].name.toList==b[i].name.toList)))))=false:=by exact hq
    rw[←hF,hst]
    exact zW0 (I hat (I hat2 (I hlb (I he (I @Bool.not_true (I @Bool.not_false (I @Bool.and_self (I @zaP zca))))))))
   ·rw[hq,Bool.true_and]at hst
    have he:((a[i].client==b[i].client)&&((a[i].seq==b[i].seq)&&((a[i].kind==b[i].kind)&&((a[i].session==b[i].session)&&(a[i].name.toList==b[i].name.toList)))))=true:=by exact hq
    refine zL0 (I hat (I hat2 (I hlb (I he (I @Bool.not_true (I @Bool.not_false (I @Bool.and_self (I @zaP zca)))))))) ?_
    exact hK _ (i+1) (Gh.canon [] [] [] (zk hw) rfl rfl) hi hst.symm (by omega)
  ·have hi:i=a.length:=by
    have:¬(i:Int)<a.length:=by simpa using hge
    omega
   rw[←hF,zcs hi]
   exact zW0 trivial
 ·rw[zcZ hl]
  exact zW0 hl
set_option maxHeartbeats 1000000 in
theorem zwv (a b:List Req) (ha:a.length<2^30) (hb:b.length<2^30):CallOK Tryz.prog 105 [.f (al a.length (zbS a)), .f (al b.length (zbS b))] (fun r o=>r=[rb (sameL zmC a b)]∧o=[]):=by
 refine zh Tryz.func105 Tryz.results105 Tryz.ntmps105 Tryz.call105 ?_
 simp only[Tryz.f105,Option.getD]
 cases hl:((a.length:Int) !=(b.length:Int))
 ·obtain⟨hle,hsr⟩:=zc0 (eq:=zmC) hl
  rw[hsr]
  refine zL0 hl ?_
  refine zai (τ:=Nat) (fun i=>⟨(al a.length (zbS a)::al b.length (zbS b)::dq3 (ai i::zr9 [])),[]⟩)
   (fun i=>i≤a.length) (fun i=>zfo zmC a b i) (fun i=>a.length - i) 0
   (Gh.canon [] [] [] zK rfl rfl) (Nat.zero_le _) ?_
  intro i hi0 hF K hK
  refine zw ?_
  refine zaa (fun hlt=> ?_) (fun hge=> ?_)
  ·have hi:i<a.length:=by simpa using hlt
   have hi2:i<b.length:=by omega
   have hat:=zfC hi
   have hat2:=zfC hi2
   have hw:=zal hi (by omega)
   have hlb:decide ((i:Int)<a.length)=true:=by simp;omega
   have hst:=zbR (eq:=zmC) hi hi2
   cases hq:zmC a[i] b[i]
   ·rw[hq]at hst
    have he:((a[i].client==b[i].client)&&((a[i].seq==b[i].seq)&&((a[i].kind==b[i].kind)&&((a[i].session==b[i].session)&&(a[i].name.toList==b[i].name.toList)))))=false:=by exact hq
    rw[←hF,hst]
    exact zW0 (I hat (I hat2 (I hlb (I he (I @Bool.not_true (I @Bool.not_false (I @Bool.and_self (I @zaP zca))))))))
   ·rw[hq,Bool.true_and]at hst
    have he:((a[i].client==b[i].client)&&((a[i].seq==b[i].seq)&&((a[i].kind==b[i].kind)&&((a[i].session==b[i].session)&&(a[i].name.toList==b[i].name.toList)))))=true:=by exact hq
    refine zL0 (I hat (I hat2 (I hlb (I he (I @Bool.not_true (I @Bool.not_false (I @Bool.and_self (I @zaP zca)))))))) ?_
    exact hK _ (i+1) (Gh.canon [] [] [] (zk hw) rfl rfl) hi hst.symm (by omega)
  ·have hi:i=a.length:=by
    have:¬(i:Int)<a.length:=by simpa using hge
    omega
   rw[←hF,zcs hi]
   exact zW0 trivial
 ·rw[zcZ hl]
  exact zW0 hl
theorem zuu (a b:Batch) (ha:a.reqs.length<2^30) (hb:b.reqs.length<2^30):CallOK Tryz.prog 80 [.f (.agg a.lent), .f (.agg b.lent)] (fun r o=>r=[rb (eqBa a b)]∧o=[]):=by
 refine zh Tryz.func80 Tryz.results80 Tryz.ntmps80 Tryz.call80 ?_
 simp only[Tryz.f80,Option.getD]
 have hi:=zwu a.reqs b.reqs ha hb
 refine zL trivial (hi) ?_
 rfl
theorem zn9 (a b:Batch) (ha:a.reqs.length<2^30) (hb:b.reqs.length<2^30):CallOK Tryz.prog 54 [.f (.agg a.lent), .f (.agg b.lent)] (fun r o=>r=[rb (eqBa a b)]∧o=[]):=by
 refine zh Tryz.func54 Tryz.results54 Tryz.ntmps54 Tryz.call54 ?_
 simp only[Tryz.f54,Option.getD]
 have hi:=zwv a.reqs b.reqs ha hb
 refine zL trivial (hi) ?_
 rfl
set_option maxHeartbeats 1000000 in
theorem zuv (a b:List Vote) (ha:a.length<2^30) (hb:b.length<2^30) (hla:∀x∈a,x.batch.reqs.length<2^30) (hlb2:∀x∈b,x.batch.reqs.length<2^30):CallOK Tryz.prog 106 [.f (al a.length (zbo a)), .f (al b.length (zbo b))] (fun r o=>r=[rb (sameL zut a b)]∧o=[]):=by
 refine zh Tryz.func106 Tryz.results106 Tryz.ntmps106 Tryz.call106 ?_
 simp only[Tryz.f106,Option.getD]
 cases hl:((a.length:Int) !=(b.length:Int))
 ·obtain⟨hle,hsr⟩:=zc0 (eq:=zut) hl
  rw[hsr]
  refine zL0 hl ?_
  refine zai (τ:=Nat) (fun i=>⟨(al a.length (zbo a)::al b.length (zbo b)::dq3 (ai i::dq9 (zez []))),[]⟩)
   (fun i=>i≤a.length) (fun i=>zfo zut a b i) (fun i=>a.length - i) 0
   (Gh.canon [] [] [] zK rfl rfl) (Nat.zero_le _) ?_
  intro i hi0 hF K hK
  refine zw ?_
  refine zaa (fun hlt=> ?_) (fun hge=> ?_)
  ·have hi:i<a.length:=by simpa using hlt
   have hi2:i<b.length:=by omega
   have hat:=ziW hi
   have hat2:=ziW hi2
   have hw:=zal hi (by omega)
   have hlb:decide ((i:Int)<a.length)=true:=by simp;omega
   have hst:=zbR (eq:=zut) hi hi2
   have hd1:(zbo a).drop (i*8+1)=iD a[i].ballot::(a[i].batch.enc++zbo (a.drop (i+1))):=by rw[←List.drop_drop,hat];rfl
   have hd2:(zbo b).drop (i*8+1)=iD b[i].ballot::(b[i].batch.enc++zbo (b.drop (i+1))):=by rw[←List.drop_drop,hat2];rfl
   have hd3:(zbo a).drop (i*8+2)=a[i].batch.enc++zbo (a.drop (i+1)):=by rw[←List.drop_drop,hat];rfl
   have hd4:(zbo b).drop (i*8+2)=b[i].batch.enc++zbo (b.drop (i+1)):=by rw[←List.drop_drop,hat2];rfl
   have hsr:=zn9 a[i].batch b[i].batch (hla _ (List.getElem_mem hi)) (hlb2 _ (List.getElem_mem hi2))
   have hme:zut a[i] b[i]=((a[i].slot==b[i].slot)&&(a[i].ballot==b[i].ballot)&&eqBa a[i].batch b[i].batch):=rfl
   cases hq:zut a[i] b[i]
   ·rw[hq]at hst
    have he:(((a[i].slot !=b[i].slot)||(a[i].ballot !=b[i].ballot))|| !eqBa a[i].batch b[i].batch)=true:=by rw[hme]at hq;revert hq;cases eqBa a[i].batch b[i].batch<;>cases h1:(a[i].slot==b[i].slot)<;>cases h2:(a[i].ballot==b[i].ballot)<;>simp[bne,h1,h2]
    rw[←hF,hst]
    exact zW (I hat (I hat2 (I hlb (I he (I @Bool.not_true (I @Bool.not_false (I @Bool.and_self (I hd1 (I hd2 (I hd3 (I hd4 (I @zaN zca)))))))))))) (hsr)
   ·rw[hq,Bool.true_and]at hst
    have he:(((a[i].slot !=b[i].slot)||(a[i].ballot !=b[i].ballot))|| !eqBa a[i].batch b[i].batch)=false:=by rw[hme]at hq;revert hq;cases eqBa a[i].batch b[i].batch<;>cases h1:(a[i].slot==b[i].slot)<;>cases h2:(a[i].ballot==b[i].ballot)<;>simp[bne,h1,h2]
    refine zL (I hat (I hat2 (I hlb (I he (I @Bool.not_true (I @Bool.not_false (I @Bool.and_self (I hd1 (I hd2 (I hd3 (I hd4 (I @zaN zca)))))))))))) (hsr) ?_
    exact hK _ (i+1) (Gh.canon [] [] [] (zk hw) rfl rfl) hi hst.symm (by omega)
  ·have hi:i=a.length:=by
    have:¬(i:Int)<a.length:=by simpa using hge
    omega
   rw[←hF,zcs hi]
   exact zW0 trivial
 ·rw[zcZ hl]
  exact zW0 hl
theorem zww (a b:Prom) (ha:a.votes.length<2^30) (hb:b.votes.length<2^30) (hla:∀x∈a.votes,x.batch.reqs.length<2^30) (hlb2:∀x∈b.votes,x.batch.reqs.length<2^30):CallOK Tryz.prog 55 [.f (.agg a.lent), .f (.agg b.lent)] (fun r o=>r=[rb (zzx a b)]∧o=[]):=by
 refine zh Tryz.func55 Tryz.results55 Tryz.ntmps55 Tryz.call55 ?_
 simp only[Tryz.f55,Option.getD]
 have hi:=zuv a.votes b.votes ha hb hla hlb2
 refine zL trivial (hi) ?_
 rfl
theorem zze (a b:Memo):((a.client==b.client)&&(a.seq==b.seq)&&eqRe a.reply b.reply)=eqMe a b:=by unfold eqMe eqRe;simp only[Bool.and_assoc]
theorem zrE (a b:Memo) (ha:a.reply.held.length<2^30) (hb:b.reply.held.length<2^30):CallOK Tryz.prog 53 [.f (.agg a.lent), .f (.agg b.lent)] (fun r o=>r=[rb (eqMe a b)]∧o=[]):=by
 refine zh Tryz.func53 Tryz.results53 Tryz.ntmps53 Tryz.call53 ?_
 simp only[Tryz.f53,Option.getD]
 have h:=zob a.reply b.reply ha hb
 refine zL trivial (h) ?_
 rw[←zze]
structure Pkt where
 kind:Int
 ballot:Int
 slot:Int
 done:Int
 req:Req
 ans:Memo
 bat:Batch
 prom:Prom
 snap:Sn
abbrev snE (s:Sn):List D:=iD s.done::iD s.view::iD s.slot::stE s.st
abbrev Pkt.enc (p:Pkt):List D:=iD p.kind::iD p.ballot::iD p.slot::iD p.done::(p.req.enc++(p.ans.enc++(p.bat.enc++(p.prom.enc++snE p.snap))))
abbrev Pkt.lent (p:Pkt):List C:=di p.kind::di p.ballot::di p.slot::di p.done::(p.req.enc.map C.d++(p.ans.lent++(p.bat.lent++(p.prom.lent++p.snap.lent))))
structure Pkt.ok (p:Pkt):Prop where
 k:i64 p.kind
 b:i64 p.ballot
 s:i64 p.slot
 d:i64 p.done
 req:p.req.ok
 ans:zcD p.ans.reply
 bat:p.bat.ok
 bl:p.bat.reqs.length<2^30
 prom:p.prom.ok
 pl:p.prom.votes.length<2^30
 vl:∀x∈p.prom.votes,x.batch.reqs.length<2^30
 snap:Small p.snap.st
def zxE (a b:Pkt):Bool:=(a.kind==b.kind)&&(a.ballot==b.ballot)&&(a.slot==b.slot)&&(a.done==b.done)&&zmC a.req b.req&&eqMe a.ans b.ans&&eqBa a.bat b.bat&&zzx a.prom b.prom&&zzy a.snap b.snap
theorem zuw (a b:Pkt) (ha:a.ok) (hb:b.ok):CallOK Tryz.prog 17 [.f (.agg a.lent), .f (.agg b.lent)] (fun r o=>r=[rb (zxE a b)]∧o=[]):=by
 refine zh Tryz.func17 Tryz.results17 Tryz.ntmps17 Tryz.call17 ?_
 simp only[Tryz.f17,Option.getD]
 have h1:=zrE a.ans b.ans (by have:=ha.ans.1;omega) (by have:=hb.ans.1;omega)
 have h2:=zn9 a.bat b.bat ha.bl hb.bl
 have h3:=zww a.prom b.prom ha.pl hb.pl ha.vl hb.vl
 have h4:=zpd a.snap b.snap ha.snap hb.snap
 refine zL trivial (I (h1) (I (h2) (I (h3) (h4)))) ?_
 rfl
abbrev zzw:St:=⟨0,0,0,[],[],[]⟩
abbrev bat00:Batch:=⟨false,0,⟨0,0⟩,0,[]⟩
def zcL (p:Pkt):Bool:=p.ballot==0&&p.slot==0&&p.done==0&&zmC p.req ⟨0,0,0,0, .empty⟩&&p.ans.client==0&&p.ans.seq==0&&p.ans.reply.code==0&&p.ans.reply.session==0&&p.ans.reply.ahead==0&&(p.ans.reply.held.length:Int)==0&&
 eqBa p.bat bat00&&p.prom.src==0&&p.prom.done==0&&((p.prom.tip.view==0)&&(p.prom.tip.slot==0))&&p.prom.time==0&&(p.prom.votes.length:Int)==0&&p.snap.done==0&&((p.snap.view==0)&&(p.snap.slot==0))&&zrR p.snap.st zzw
theorem zim (v a:Int):CallOK Tryz.prog 36 [.f (ai v), .f (ai a)] (fun r o=>r=[rb (decide (v≥a)&&decide (v≤2305843009213693952))]∧o=[]):=by
 refine zh Tryz.func36 Tryz.results36 Tryz.ntmps36 Tryz.call36 ?_
 simp only[Tryz.f36,Option.getD]
 exact zW0 trivial
set_option maxHeartbeats 2000000 in
theorem zcR (p:Pkt) (h:p.ok):CallOK Tryz.prog 40 [.f (.agg p.lent)] (fun r o=>r=[rb (zcL p)]∧o=[]):=by
 refine zh Tryz.func40 Tryz.results40 Tryz.ntmps40 Tryz.call40 ?_
 simp only[Tryz.f40,Option.getD]
 have h1:=zuu p.bat bat00 h.bl (by simp)
 have h2:=zwD p.snap.st zzw h.snap ⟨by simp,by simp,by simp,by simp,by simp⟩
 refine zL trivial (I (h1) (h2)) ?_
 rfl
abbrev inW (v a:Int):Bool:=decide (v≥a)&&decide (v≤2305843009213693952)
def zzd (p:Pkt):Pkt:=if p.kind=1 then {p with req:=⟨0,0,0,0, .empty⟩}else if p.kind=2 then {p with ans:=⟨0,0,⟨0,0,0,[]⟩⟩}else if p.kind=3 then {p with ballot:=0}else if p.kind=4 then {p with ballot:=0,prom:=⟨0,0,⟨0,0⟩,0,[]⟩}else if p.kind=5 then {p with ballot:=0,slot:=0,bat:=bat00}else if p.kind=6 then {p with ballot:=0,slot:=0,bat:=bat00}else if p.kind=7 then {p with ballot:=0,done:=0}else if p.kind=8 then {p with done:=0}else if p.kind=9 then {p with snap:=⟨0,0,0,zzw⟩}else p
def okP (p:Pkt):Bool:=if p.kind=1 then Req.may p.req else if p.kind=2 then answerB p.ans else if p.kind=3 then inW p.ballot 0 else if p.kind=4 then inW p.ballot 0&&Prom.may p.prom else if p.kind=5 then inW p.ballot 0&&inW p.slot 1&&Batch.may p.bat else if p.kind=6 then inW p.ballot 0&&inW p.slot 1&&Batch.may p.bat else if p.kind=7 then inW p.ballot 0&&inW p.done 0 else if p.kind=8 then inW p.done 0 else if p.kind=9 then zbp p.snap else false
def ziD (p:Pkt):Bool:=okP p&&zcL (zzd p)
theorem kinds (k:Int):k=1∨k=2∨k=3∨k=4∨k=5∨k=6∨k=7∨k=8∨k=9∨((k==1)=false∧(k==2)=false∧(k==3)=false∧(k==4)=false∧(k==5)=false∧(k==6)=false∧(k==7)=false∧(k==8)=false∧(k==9)=false):=by
 simp only[beq_eq_false_iff_ne,ne_eq];omega
theorem zus:Small zzw:=⟨by simp,by simp,by simp,by simp,by simp⟩
theorem zdp:i64 0:=by unfold i64;omega
theorem zxD:bat00.ok:=⟨zdp,zdp,zdp,zdp,by simp,by simp⟩
set_option maxHeartbeats 4000000 in
theorem zcE (p:Pkt) (h:p.ok):CallOK Tryz.prog 13 [.f (.agg p.lent)] (fun r o=>r=[rb (ziD p)]∧o=[]):=by
 refine zh Tryz.func13 Tryz.results13 Tryz.ntmps13 Tryz.call13 ?_
 simp only[Tryz.f13,Option.getD]
 obtain⟨kind,ballot,slot,done,req,ans,bat,prom,snap⟩:=p
 obtain⟨hk,hb,hs,hd,hreq,hans,hbat,hbl,hprom,hpl,hvl,hsn⟩:=h
 simp only at hk hb hs hd hreq hans hbat hbl hprom hpl hvl hsn
 have w1:=zim ballot 0
 have w2:=zim slot 1
 have w3:=zim done 0
 rcases kinds kind with rfl|rfl|rfl|rfl|rfl|rfl|rfl|rfl|rfl|⟨k1,k2,k3,k4,k5,k6,k7,k8,k9⟩
 ·have he:=zcR ⟨1,ballot,slot,done,⟨0,0,0,0, .empty⟩,ans,bat,prom,snap⟩ ⟨hk,hb,hs,hd,⟨zdp,zdp,zdp,zdp,(by show(ByteArray.empty).size<2^62;decide)⟩,hans,hbat,hbl,hprom,hpl,hvl,hsn⟩
  have hm:=zf4 req hreq
  refine zL trivial (I (hm) (he)) ?_
  rfl
 ·have he:=zcR ⟨2,ballot,slot,done,req,⟨0,0,⟨0,0,0,[]⟩⟩,bat,prom,snap⟩ ⟨hk,hb,hs,hd,hreq,⟨by simp,by simp⟩,hbat,hbl,hprom,hpl,hvl,hsn⟩
  have hm:=zf5 ans hans
  refine zL trivial (I (hm) (he)) ?_
  rfl
 ·have he:=zcR ⟨3,0,slot,done,req,ans,bat,prom,snap⟩ ⟨hk,zdp,hs,hd,hreq,hans,hbat,hbl,hprom,hpl,hvl,hsn⟩
  refine zL trivial (I (w1) (he)) ?_
  rfl
 ·have he:=zcR ⟨4,0,slot,done,req,ans,bat,⟨0,0,⟨0,0⟩,0,[]⟩,snap⟩ ⟨hk,zdp,hs,hd,hreq,hans,hbat,hbl,⟨zdp,zdp,zdp,zdp,zdp,by simp,by simp⟩,by simp,by simp,hsn⟩
  have hm:=zrM prom hprom
  refine zL trivial (I (hm) (I (w1) (he))) ?_
  rfl
 ·have he:=zcR ⟨5,0,0,done,req,ans,bat00,prom,snap⟩ ⟨hk,zdp,zdp,hd,hreq,hans,zxD,by simp,hprom,hpl,hvl,hsn⟩
  have hm:=zdz bat hbat
  refine zL trivial (I (hm) (I (w1) (I (w2) (he)))) ?_
  rfl
 ·have he:=zcR ⟨6,0,0,done,req,ans,bat00,prom,snap⟩ ⟨hk,zdp,zdp,hd,hreq,hans,zxD,by simp,hprom,hpl,hvl,hsn⟩
  have hm:=zdz bat hbat
  refine zL trivial (I (hm) (I (w1) (I (w2) (he)))) ?_
  rfl
 ·have he:=zcR ⟨7,0,slot,0,req,ans,bat,prom,snap⟩ ⟨hk,zdp,hs,zdp,hreq,hans,hbat,hbl,hprom,hpl,hvl,hsn⟩
  refine zL trivial (I (w1) (I (w3) (he))) ?_
  rfl
 ·have he:=zcR ⟨8,ballot,slot,0,req,ans,bat,prom,snap⟩ ⟨hk,hb,hs,zdp,hreq,hans,hbat,hbl,hprom,hpl,hvl,hsn⟩
  refine zL trivial (I (w3) (he)) ?_
  rfl
 ·have he:=zcR ⟨9,ballot,slot,done,req,ans,bat,prom,⟨0,0,0,zzw⟩⟩ ⟨hk,hb,hs,hd,hreq,hans,hbat,hbl,hprom,hpl,hvl,zus⟩
  have hm:=zhZ snap hsn
  refine zL trivial (I (hm) (he)) ?_
  rfl
 ·have he:=zcR ⟨kind,ballot,slot,done,req,ans,bat,prom,snap⟩ ⟨hk,hb,hs,hd,hreq,hans,hbat,hbl,hprom,hpl,hvl,hsn⟩
  have hz:ziD ⟨kind,ballot,slot,done,req,ans,bat,prom,snap⟩=false:=by
   simp only[beq_eq_false_iff_ne,ne_eq]at k1 k2 k3 k4 k5 k6 k7 k8 k9
   unfold ziD okP
   simp only[k1,k2,k3,k4,k5,k6,k7,k8,k9,if_false,Bool.false_and]
  rw[hz]
  exact zW (I k1 (I k2 (I k3 (I k4 (I k5 (I k6 (I k7 (I k8 k9)))))))) (he)
def ziP (v:Vote):List Int:=zaH [v.slot,v.ballot]++zeH v.batch
abbrev zn7 (p:Prom):List Int:=[p.done,p.tip.view,p.tip.slot,p.time]
def pr0 (p:Prom):List Int:=[p.src]++(zaH (zn7 p)++[(p.votes.length:Int)])
def pr1 (p:Prom) (i:Nat):List Int:=pr0 p++(p.votes.take i).flatMap ziP
def zew (p:Prom):List Int:=pr1 p p.votes.length
theorem zqA {p:Prom}:pr1 p 0=pr0 p:=by simp[pr1]
theorem zup (p:Prom):(pr0 p).length=34:=by simp[pr0,zbu]
theorem zi9 {b:Batch} (h:Batch.may b=true):(zeH b).length≤127:=by
 unfold zeH
 split
 ·simp
 ·obtain⟨h1,h2⟩:=zer h
  have:=zuk h2 b.reqs.length
  omega
theorem zuq {v:Vote} (h:Batch.may v.batch=true):(ziP v).length≤143:=by
 have:=zi9 h
 rw[ziP,List.length_append,zbu]
 simp only[List.length_cons,List.length_nil]
 omega
theorem zwt {p:Prom} {i:Nat} (hi:i<p.votes.length):pr1 p (i+1)=pr1 p i++ziP p.votes[i]:=by
 rw[pr1,zc5 _ hi,pr1,List.append_assoc]
theorem zur {p:Prom} (h:∀v∈p.votes,Batch.may v.batch=true) (i:Nat):(pr1 p i).length≤34+i*143:=by
 have:=zd7 ziP (l:=p.votes.take i) (k:=143) fun v hv=>zuq (h v (List.mem_of_mem_take hv))
 have h2:(p.votes.take i).length*143≤i*143:=Nat.mul_le_mul_right _ (by rw[List.length_take];omega)
 rw[pr1,List.length_append,zup]
 omega
theorem zn8 {p:Prom} (m:MayP p):∀v∈zn7 p,0≤v∧v<4611686018427387904:=by
 intro v hv
 have:=m.done
 have:=m.view
 have:=m.slot
 have:=m.time
 simp only[zn7,List.mem_cons,List.not_mem_nil,or_false]at hv
 rcases hv with rfl|rfl|rfl|rfl<;>omega
theorem zki {p:Prom} (m:MayP p) {v:Vote} (hv:v∈p.votes):(∀x∈[v.slot,v.ballot],0≤x∧x<4611686018427387904)∧Batch.may v.batch=true:=by
 obtain⟨_,_,h1,h2,h3⟩:=m.votes v hv
 have:=bad_false h1
 have:=bad_false h2
 refine⟨fun x hx=> ?_,h3⟩
 simp only[List.mem_cons,List.not_mem_nil,or_false]at hx
 rcases hx with rfl|rfl<;>omega
set_option maxHeartbeats 2000000 in
theorem zrD (p:Prom) (m:MayP p):CallOK Tryz.prog 25 [.f (.agg p.lent)] (fun x o=>x=[.one (.own 1 (zew p).length (zad (zew p)) false)]∧o=[]):=by
 refine zh Tryz.func25 Tryz.results25 Tryz.ntmps25 Tryz.call25 ?_
 simp only[Tryz.f25,Option.getD]
 have hsrc:=m.src
 have hvl:=m.len
 have hmay:∀v∈p.votes,Batch.may v.batch=true:=fun v hv=>(m.votes v hv).2.2.2.2
 have w1:IntKind.u8.wrap p.src=p.src:=zdT (by omega) (by omega)
 have w2:IntKind.u8.wrap (p.votes.length:Int)=p.votes.length:=zdT (by omega) (by omega)
 have hpn:=zf6 (zn7 p) (by simp) (zn8 m)
 have hcc:CallOK Tryz.prog 66 [.f (al 3 [.sl 1 (zad [p.src]), .sl (zaH (zn7 p)).length (zad (zaH (zn7 p))), .sl 1 (zad [(p.votes.length:Int)])])] (fun x o=>x=[.one (.own 1 (pr0 p).length (zad (pr0 p)) false)]∧o=[]):=by
  have hc:=zfZ [[p.src],zaH (zn7 p),[(p.votes.length:Int)]] (by simp) (fun l hl=>by
   simp only[List.mem_cons,List.not_mem_nil,or_false]at hl
   rcases hl with rfl|rfl|rfl
   ·simp
   ·rw[zbu];simp
   ·simp)
  rw[show [[p.src],zaH (zn7 p),[(p.votes.length:Int)]].flatten=pr0 p from by simp[pr0]]at hc
  exact hc
 have t1:∀x:Int,toDs (sub 0 1 1 [C.d (uD x)])=some [uD x]:=fun _=>rfl
 have t4:∀a b c d:Int,toDs (sub 0 4 1 [di a,di b,di c,di d])=some [iD a,iD b,iD c,iD d]:=fun _ _ _ _=>rfl
 refine zL (I t1 (I t4 (I w1 (I w2 @zat)))) (I (hpn) (hcc)) ?_
 refine zai (τ:=Nat) (fun i=>⟨(dq3 (.one (.own ⟨3,1,1⟩ 0 (pr1 p i).length)::zu7 (al p.votes.length (zbo p.votes)::ai p.votes.length::ai i::zov []))),[(1,⟨2,[]⟩),(11,⟨2,[]⟩),(22,⟨2,[]⟩),(23,⟨2,[]⟩),(28,⟨2,[]⟩),(29,⟨2,[]⟩),(30,⟨2,[]⟩),(3,⟨2,[none,roq 1 1 (zad (pr1 p i))]⟩),(5,⟨2,[]⟩),(6,⟨2,[]⟩),(41,⟨2,[]⟩),(49,⟨2,[]⟩),(50,⟨2,[]⟩),(52,⟨2,[]⟩),(53,⟨2,[]⟩)]⟩)
  (fun i=>i≤p.votes.length) (fun _=>()) (fun i=>p.votes.length - i) 0
  (Gh.canon [3] [5,6,41,49,50,52,53] [] (zk @zqA) rfl (by rw[zqA];rfl)) (Nat.zero_le _) ?_
 intro i hi0 hF K hK
 refine zw ?_
 refine zaa (fun hlt=> ?_) (fun hge=> ?_)
 ·have hi:i<p.votes.length:=by simpa using hlt
  have hat:=ziW hi
  have hw:=zal hi (by omega)
  obtain⟨vn,vm⟩:=zki m (List.getElem_mem hi)
  have hb:=zkf p.votes[i].batch vm
  have hn:=zf6 [p.votes[i].slot,p.votes[i].ballot] (by simp) vn
  have hl0:=zur hmay i
  have hl1:=zi9 vm
  have hsl:=zwt hi
  have hcc:CallOK Tryz.prog 66 [.f (al 3 [.sl (pr1 p i).length (zad (pr1 p i)), .sl (zaH [p.votes[i].slot,p.votes[i].ballot]).length (zad (zaH [p.votes[i].slot,p.votes[i].ballot])), .sl (zeH p.votes[i].batch).length (zad (zeH p.votes[i].batch))])] (fun x o=>x=[.one (.own 1 (pr1 p (i+1)).length (zad (pr1 p (i+1))) false)]∧o=[]):=by
   have hc:=zfZ [pr1 p i,zaH [p.votes[i].slot,p.votes[i].ballot],zeH p.votes[i].batch] (by simp) (fun l hl=>by
    simp only[List.mem_cons,List.not_mem_nil,or_false]at hl
    rcases hl with rfl|rfl|rfl
    ·omega
    ·rw[zbu];simp
    ·omega)
   rw[show [pr1 p i,zaH [p.votes[i].slot,p.votes[i].ballot],zeH p.votes[i].batch].flatten=pr1 p (i+1) from by rw[hsl];simp[ziP]]at hc
   exact hc
  have t2:∀a b:Int,toDs (sub 0 2 1 [di a,di b])=some [iD a,iD b]:=fun _ _=>rfl
  refine zL (I hat (I @zaN (I t2 (I @zat zca)))) (I (hb) (I (hn) (hcc))) ?_
  exact hK _ (i+1) (Gh.canon [3] [] [] (zk hw) rfl rfl) hi rfl (by omega)
 ·have hi:i=p.votes.length:=by
   have:¬(i:Int)<p.votes.length:=by simpa using hge
   omega
  subst hi
  refine zL0 trivial ?_
  rfl
def zkG (p:Pkt):List Int:=if p.kind=1 then zik p.req else if p.kind=2 then zba p.ans else if p.kind=3 then zaH [p.ballot]else if p.kind=4 then zaH [p.ballot]++zew p.prom else if p.kind=5 then zaH [p.ballot,p.slot]++zeH p.bat else if p.kind=6 then zaH [p.ballot,p.slot]++zeH p.bat else if p.kind=7 then zaH [p.ballot,p.done]else if p.kind=8 then zaH [p.done]else snI p.snap
def pkI (p:Pkt):List Int:=[p.kind]++zkG p
theorem zf7 {p:Pkt} (h:ziD p=true):okP p=true∧zcL (zzd p)=true:=by
 unfold ziD at h
 simpa using h
theorem zfn {v a:Int} (h:inW v a=true) (ha:0≤a):0≤v∧v<4611686018427387904:=by
 simp only[inW,Bool.and_eq_true,decide_eq_true_eq]at h
 omega
theorem zza {a:Int} (h:0≤a∧a<4611686018427387904):∀v∈[a],0≤v∧v<4611686018427387904:=fun v hv=>by
 simp only[List.mem_cons,List.not_mem_nil,or_false]at hv
 rw[hv];exact h
theorem zzb {a b:Int} (h:0≤a∧a<4611686018427387904) (h2:0≤b∧b<4611686018427387904):∀v∈[a,b],0≤v∧v<4611686018427387904:=fun v hv=>by
 simp only[List.mem_cons,List.not_mem_nil,or_false]at hv
 rcases hv with rfl|rfl<;>assumption
theorem zzc {s:Sn} (h:zbp s=true):(snI s).length≤1200:=by
 obtain⟨_,_,_,hr⟩:=zdZ h
 have h1:=zoO hr s.st.memos.length
 have h2:=zhB hr
 unfold snI zdX
 simp only[List.length_append,zaX]
 omega
theorem zuo {p:Prom} (m:MayP p):(zew p).length≤1321:=by
 have:=zur (fun v hv=>(m.votes v hv).2.2.2.2) p.votes.length
 have:=m.len
 unfold zew
 omega
theorem zkh {p:Pkt} (h:ziD p=true):(zkG p).length≤1400:=by
 have ho:=(zf7 h).1
 obtain⟨kind,ballot,slot,done,req,ans,bat,prom,snap⟩:=p
 rcases kinds kind with rfl|rfl|rfl|rfl|rfl|rfl|rfl|rfl|rfl|⟨k1,k2,k3,k4,k5,k6,k7,k8,k9⟩
 ·have:=zmA (show Req.may req=true from ho)
  show(zik req).length≤_
  omega
 ·have:=zgT (show answerB ans=true from ho)
  show(zba ans).length≤_
  omega
 ·show(zaH [ballot]).length≤_
  rw[zbu];simp
 ·have ho:(inW ballot 0&&Prom.may prom)=true:=ho
  rw[Bool.and_eq_true]at ho
  have:=zuo (zlJ ho.2)
  show(zaH [ballot]++zew prom).length≤_
  rw[List.length_append,zbu];simp only[List.length_singleton];omega
 ·have ho:(inW ballot 0&&inW slot 1&&Batch.may bat)=true:=ho
  rw[Bool.and_eq_true]at ho
  have:=zi9 ho.2
  show(zaH [ballot,slot]++zeH bat).length≤_
  rw[List.length_append,zbu];simp only[List.length_cons,List.length_nil];omega
 ·have ho:(inW ballot 0&&inW slot 1&&Batch.may bat)=true:=ho
  rw[Bool.and_eq_true]at ho
  have:=zi9 ho.2
  show(zaH [ballot,slot]++zeH bat).length≤_
  rw[List.length_append,zbu];simp only[List.length_cons,List.length_nil];omega
 ·show(zaH [ballot,done]).length≤_
  rw[zbu];simp
 ·show(zaH [done]).length≤_
  rw[zbu];simp
 ·have:=zzc (show zbp snap=true from ho)
  show(snI snap).length≤_
  omega
 ·simp only[beq_eq_false_iff_ne,ne_eq]at k1 k2 k3 k4 k5 k6 k7 k8 k9
  unfold okP at ho
  simp only[k1,k2,k3,k4,k5,k6,k7,k8,k9,if_false]at ho
  cases ho
theorem put_eq (k:Int) (l:List Int):[RF.one (.own 1 (1+l.length) (uD k::zad l) false),ri 0]=[RF.one (.own 1 ([k]++l).length (zad ([k]++l)) false),ri 0]:=by
 simp[zad,Nat.add_comm]
theorem zpc (k:Int) (a b:List Int):[RF.one (.own 1 (1+(a.length+b.length)) (uD k::(zad a++zad b)) false),ri 0]=[RF.one (.own 1 ([k]++(a++b)).length (zad ([k]++(a++b))) false),ri 0]:=by
 simp[zad,Nat.add_comm]
theorem zdL (p:Pkt) (hp:p.ok) (h:ziD p=false):CallOK Tryz.prog 11 [.f (.agg p.lent)] (fun r o=>r=[.one (.d (.v zfs)),ri 1]∧o=[]):=by
 refine zh Tryz.func11 Tryz.results11 Tryz.ntmps11 Tryz.call11 ?_
 simp only[Tryz.f11,Option.getD]
 have hm:=zcE p hp
 rw[h]at hm
 exact zW trivial (hm)
set_option maxHeartbeats 4000000 in
theorem zhT (p:Pkt) (hp:p.ok) (h:ziD p=true):CallOK Tryz.prog 11 [.f (.agg p.lent)] (fun r o=>r=[.one (.own 1 (pkI p).length (zad (pkI p)) false),ri 0]∧o=[]):=by
 refine zh Tryz.func11 Tryz.results11 Tryz.ntmps11 Tryz.call11 ?_
 simp only[Tryz.f11,Option.getD]
 have hm:=zcE p hp
 rw[h]at hm
 have ho:=(zf7 h).1
 have hl:=zkh h
 obtain⟨kind,ballot,slot,done,req,ans,bat,prom,snap⟩:=p
 have t1:∀x:Int,toDs (sub 0 1 1 [di x])=some [iD x]:=fun _=>rfl
 have t2:∀x y:Int,toDs (sub 0 2 1 [di x,di y])=some [iD x,iD y]:=fun _ _=>rfl
 rcases kinds kind with rfl|rfl|rfl|rfl|rfl|rfl|rfl|rfl|rfl|⟨k1,k2,k3,k4,k5,k6,k7,k8,k9⟩
 ·have hc:=zn5 req ho
  have w:IntKind.u8.wrap 1=1:=zdT (by omega) (by omega)
  have hle:(1+(zik req).length≤2^47)=True:=eq_true (by have hl:(zik req).length≤1400:=hl;omega)
  refine zL (I t1 (I t2 (I w (I hle (I @zat @List.length_map.{0,0}))))) (I (hm) (hc)) ?_
  exact put_eq _ _
 ·have hc:=ziy ans ho
  have w:IntKind.u8.wrap 2=2:=zdT (by omega) (by omega)
  have hle:(1+(zba ans).length≤2^47)=True:=eq_true (by have hl:(zba ans).length≤1400:=hl;omega)
  refine zL (I t1 (I t2 (I w (I hle (I @zat @List.length_map.{0,0}))))) (I (hm) (hc)) ?_
  exact put_eq _ _
 ·have hc:=zf6 [ballot] (by simp) (zza (zfn (show inW ballot 0=true from ho) (by omega)))
  have w:IntKind.u8.wrap 3=3:=zdT (by omega) (by omega)
  have hle:(1+(zaH [ballot]).length≤2^47)=True:=eq_true (by have hl:(zaH [ballot]).length≤1400:=hl;omega)
  refine zL (I t1 (I t2 (I w (I hle (I @zat @List.length_map.{0,0}))))) (I (hm) (hc)) ?_
  exact put_eq _ _
 ·have ho:(inW ballot 0&&Prom.may prom)=true:=ho
  rw[Bool.and_eq_true]at ho
  have hc:=zf6 [ballot] (by simp) (zza (zfn ho.1 (by omega)))
  have hc2:=zrD prom (zlJ ho.2)
  have w:IntKind.u8.wrap 4=4:=zdT (by omega) (by omega)
  have hle:(1+((zaH [ballot]).length+(zew prom).length)≤2^47)=True:=eq_true (by have hl:(zaH [ballot]++zew prom).length≤1400:=hl;rw[List.length_append]at hl;omega)
  have hle2:((zaH [ballot]).length+(zew prom).length≤2^47)=True:=eq_true (by have hl:(zaH [ballot]++zew prom).length≤1400:=hl;rw[List.length_append]at hl;omega)
  have tk:(zad (zaH [ballot])++zad (zew prom)).take ((zaH [ballot]).length+(zew prom).length)=zad (zaH [ballot])++zad (zew prom):=List.take_of_length_le (by simp)
  refine zL (I t1 (I t2 (I w (I hle (I hle2 (I tk (I @zat @List.length_map.{0,0}))))))) (I (hm) (I (hc) (hc2))) ?_
  exact zpc _ _ _
 ·have ho:(inW ballot 0&&inW slot 1&&Batch.may bat)=true:=ho
  rw[Bool.and_eq_true,Bool.and_eq_true]at ho
  have hc:=zf6 [ballot,slot] (by simp) (zzb (zfn ho.1.1 (by omega)) (zfn ho.1.2 (by omega)))
  have hc2:=zkf bat ho.2
  have w:IntKind.u8.wrap 5=5:=zdT (by omega) (by omega)
  have hle:(1+((zaH [ballot,slot]).length+(zeH bat).length)≤2^47)=True:=eq_true (by have hl:(zaH [ballot,slot]++zeH bat).length≤1400:=hl;rw[List.length_append]at hl;omega)
  have hle2:((zaH [ballot,slot]).length+(zeH bat).length≤2^47)=True:=eq_true (by have hl:(zaH [ballot,slot]++zeH bat).length≤1400:=hl;rw[List.length_append]at hl;omega)
  have tk:(zad (zaH [ballot,slot])++zad (zeH bat)).take ((zaH [ballot,slot]).length+(zeH bat).length)=zad (zaH [ballot,slot])++zad (zeH bat):=List.take_of_length_le (by simp)
  refine zL (I t1 (I t2 (I w (I hle (I hle2 (I tk (I @zat @List.length_map.{0,0}))))))) (I (hm) (I (hc) (hc2))) ?_
  exact zpc _ _ _
 ·have ho:(inW ballot 0&&inW slot 1&&Batch.may bat)=true:=ho
  rw[Bool.and_eq_true,Bool.and_eq_true]at ho
  have hc:=zf6 [ballot,slot] (by simp) (zzb (zfn ho.1.1 (by omega)) (zfn ho.1.2 (by omega)))
  have hc2:=zkf bat ho.2
  have w:IntKind.u8.wrap 6=6:=zdT (by omega) (by omega)
  have hle:(1+((zaH [ballot,slot]).length+(zeH bat).length)≤2^47)=True:=eq_true (by have hl:(zaH [ballot,slot]++zeH bat).length≤1400:=hl;rw[List.length_append]at hl;omega)
  have hle2:((zaH [ballot,slot]).length+(zeH bat).length≤2^47)=True:=eq_true (by have hl:(zaH [ballot,slot]++zeH bat).length≤1400:=hl;rw[List.length_append]at hl;omega)
  have tk:(zad (zaH [ballot,slot])++zad (zeH bat)).take ((zaH [ballot,slot]).length+(zeH bat).length)=zad (zaH [ballot,slot])++zad (zeH bat):=List.take_of_length_le (by simp)
  refine zL (I t1 (I t2 (I w (I hle (I hle2 (I tk (I @zat @List.length_map.{0,0}))))))) (I (hm) (I (hc) (hc2))) ?_
  exact zpc _ _ _
 ·have ho:(inW ballot 0&&inW done 0)=true:=ho
  rw[Bool.and_eq_true]at ho
  have hc:=zf6 [ballot,done] (by simp) (zzb (zfn ho.1 (by omega)) (zfn ho.2 (by omega)))
  have w:IntKind.u8.wrap 7=7:=zdT (by omega) (by omega)
  have hle:(1+(zaH [ballot,done]).length≤2^47)=True:=eq_true (by have hl:(zaH [ballot,done]).length≤1400:=hl;omega)
  refine zL (I t1 (I t2 (I w (I hle (I @zat @List.length_map.{0,0}))))) (I (hm) (hc)) ?_
  exact put_eq _ _
 ·have hc:=zf6 [done] (by simp) (zza (zfn (show inW done 0=true from ho) (by omega)))
  have w:IntKind.u8.wrap 8=8:=zdT (by omega) (by omega)
  have hle:(1+(zaH [done]).length≤2^47)=True:=eq_true (by have hl:(zaH [done]).length≤1400:=hl;omega)
  refine zL (I t1 (I t2 (I w (I hle (I @zat @List.length_map.{0,0}))))) (I (hm) (hc)) ?_
  exact put_eq _ _
 ·have hc:=zqM snap ho
  have w:IntKind.u8.wrap 9=9:=zdT (by omega) (by omega)
  have hle:(1+(snI snap).length≤2^47)=True:=eq_true (by have hl:(snI snap).length≤1400:=hl;omega)
  refine zL (I t1 (I t2 (I w (I hle (I @zat @List.length_map.{0,0}))))) (I (hm) (hc)) ?_
  exact put_eq _ _
 ·simp only[beq_eq_false_iff_ne,ne_eq]at k1 k2 k3 k4 k5 k6 k7 k8 k9
  unfold okP at ho
  simp only[k1,k2,k3,k4,k5,k6,k7,k8,k9,if_false]at ho
  cases ho
theorem zmx {bs:List Int} {p:Int} {y:Int×Int} (h:BsOk bs) (hy:zbf bs p= .ok y):0≤y.1∧y.1<4611686018427387904:=by
 obtain⟨_,rfl⟩:=zdF hy
 unfold zfy
 split
 ·simp
 ·split
  ·rename_i h2
   exact⟨(zib fun c hc=>h.b _ (List.mem_of_mem_drop (List.mem_of_mem_take hc))).1,h2⟩
  ·simp
theorem zui {bs:List Int} {p:Int} (h:BsOk bs) (hp:i64 p) {y:Int×Int} (hy:zbt bs p= .ok y):CallOK Tryz.prog 138 [.f (asl bs.length (zad bs)), .f (ai p)] (fun r o=>r=[ri y.1,ri y.2,ri 0]∧o=[]):=by
 obtain⟨h0,rfl⟩:=zdF hy
 have:=zdD bs p h hp
 rwa[h0]at this
theorem zwr {bs:List Int} {p:Int} (h:BsOk bs) (hp:i64 p) {e:Int} (hy:zbt bs p= .error e):CallOK Tryz.prog 138 [.f (asl bs.length (zad bs)), .f (ai p)] (fun r o=>r=[ri (zbP bs p).1,ri (zbP bs p).2.1,ri e]∧o=[])∧(e !=0)=true:=by
 obtain⟨h0,h2⟩:=zb6 hy
 have:=zdD bs p h hp
 rw[h0]at this
 exact⟨this,by simpa using h2⟩
theorem zBa {bs:List Int} {p:Int} (h:BsOk bs) (hp:i64 p) {y:Int×Int} (hy:zbf bs p= .ok y):CallOK Tryz.prog 139 [.f (asl bs.length (zad bs)), .f (ai p)] (fun r o=>r=[ri y.1,ri y.2,ri 0]∧o=[]):=by
 obtain⟨h0,rfl⟩:=zdF hy
 have:=zfi bs p h hp
 rwa[h0]at this
theorem zBb {bs:List Int} {p:Int} (h:BsOk bs) (hp:i64 p) {e:Int} (hy:zbf bs p= .error e):CallOK Tryz.prog 139 [.f (asl bs.length (zad bs)), .f (ai p)] (fun r o=>r=[ri (zfy bs p).1,ri (zfy bs p).2.1,ri e]∧o=[])∧(e !=0)=true:=by
 obtain⟨h0,h2⟩:=zb6 hy
 have:=zfi bs p h hp
 rw[h0]at this
 exact⟨this,by simpa using h2⟩
theorem zBc {bs:List Int} {p:Int} (h:BsOk bs) (hp:i64 p) {y:ByteArray×Int} (hy:zgy bs p= .ok y):CallOK Tryz.prog 175 [.f (asl bs.length (zad bs)), .f (ai p), .f (ai 12)] (fun r o=>r=[.one (.d (sD y.1)),ri y.2,ri 0]∧o=[]):=by
 obtain⟨h0,rfl⟩:=zdF hy
 have:=zhD bs p 12 h hp
 rwa[h0]at this
theorem zBd {bs:List Int} {p:Int} (h:BsOk bs) (hp:i64 p) {e:Int} (hy:zgy bs p= .error e):CallOK Tryz.prog 175 [.f (asl bs.length (zad bs)), .f (ai p), .f (ai 12)] (fun r o=>r=[.one (.d (sD (zcA bs p 12).1)),ri (zcA bs p 12).2.1,ri e]∧o=[])∧(e !=0)=true:=by
 obtain⟨h0,h2⟩:=zb6 hy
 have:=zhD bs p 12 h hp
 rw[h0]at this
 exact⟨this,by simpa using h2⟩
abbrev Cm:=Int×Int×ByteArray
def dOf {α:Type} (z:α) (r:Rr α):α×Int×Int:=match r with
 | .ok y=>(y.1,y.2,0)
 | .error e=>(z,0,e)
def zqv (bs:List Int) (p:Int):Rr Cm:=match zbt bs p with
 | .error e=> .error e
 | .ok k=>match zbf bs k.2 with
  | .error e=> .error e
  | .ok n=>match zgy bs n.2 with
   | .error e=> .error e
   | .ok s=>if zlz k.1 n.1 s.1=true then .ok ((k.1,n.1,s.1),s.2)else .error 4
abbrev zD8 (c:Cm):RF:= .agg [.d (iD c.1), .d (iD c.2.1), .d (sD c.2.2)]
abbrev cm0:Cm:=(0,0, .empty)
theorem zuj (bs:List Int) (p:Int) (h:BsOk bs) (hp:i64 p):CallOK Tryz.prog 140 [.f (asl bs.length (zad bs)), .f (ai p)] (fun r o=>r=[zD8 (dOf cm0 (zqv bs p)).1,ri (dOf cm0 (zqv bs p)).2.1,ri (dOf cm0 (zqv bs p)).2.2]∧o=[]):=by
 refine zh Tryz.func140 Tryz.results140 Tryz.ntmps140 Tryz.call140 ?_
 simp only[Tryz.f140,Option.getD]
 unfold zqv
 cases e1:zbt bs p with
 |error e=>
  obtain⟨h1,hq⟩:=zwr h hp e1
  simp only[dOf]
  exact zW hq (h1)
 |ok k=>
 have h1:=zui h hp e1
 have p1:=zbi h e1
 simp only
 cases e2:zbf bs k.2 with
 |error e=>
  obtain⟨h2,hq⟩:=zBb h p1 e2
  simp only[dOf]
  exact zW hq (I (h1) (h2))
 |ok n=>
 have h2:=zBa h p1 e2
 have p2:=zav h e2
 simp only
 cases e3:zgy bs n.2 with
 |error e=>
  obtain⟨h3,hq⟩:=zBd h p2 e3
  simp only[dOf]
  exact zW hq (I (h1) (I (h2) (h3)))
 |ok s=>
 have h3:=zBc h p2 e3
 have hs:s.1.size<2^62:=by have:=zkO e3;have:=h.l;omega
 have h4:=zqq k.1 n.1 s.1 hs
 simp only
 cases hm:zlz k.1 n.1 s.1
 ·rw[hm]at h4
  rw[if_neg (by simp)]
  simp only[dOf]
  exact zW trivial (I (h1) (I (h2) (I (h3) (h4))))
 ·rw[hm]at h4
  rw[if_pos rfl]
  simp only[dOf]
  exact zW trivial (I (h1) (I (h2) (I (h3) (h4))))
def zkd (bs:List Int) (p:Int):Rr Req:=match zbt bs p with
 | .error e=> .error e
 | .ok k=>match zbf bs k.2 with
  | .error e=> .error e
  | .ok n=>match zqv bs n.2 with
   | .error e=> .error e
   | .ok c=>if Req.may ⟨k.1,n.1,c.1.1,c.1.2.1,c.1.2.2⟩=true then .ok (⟨k.1,n.1,c.1.1,c.1.2.1,c.1.2.2⟩,c.2)else .error 4
abbrev zBe (r:Req):RF:= .agg (r.enc.map RO.d)
abbrev zAQ:Req:=⟨0,0,0,0, .empty⟩
theorem zlF {bs:List Int} {p:Int} {y:Cm×Int} (h:BsOk bs) (hy:zqv bs p= .ok y):i64 y.2∧zlz y.1.1 y.1.2.1 y.1.2.2=true:=by
 unfold zqv at hy
 cases e1:zbt bs p with
 |error x=>rw[e1]at hy;cases hy
 |ok k=>
 rw[e1]at hy;simp only at hy
 cases e2:zbf bs k.2 with
 |error x=>rw[e2]at hy;cases hy
 |ok n=>
 rw[e2]at hy;simp only at hy
 cases e3:zgy bs n.2 with
 |error x=>rw[e3]at hy;cases hy
 |ok s=>
 rw[e3]at hy;simp only at hy
 split at hy
 ·rename_i hm
  cases hy
  exact⟨zh0 h e3,hm⟩
 ·cases hy
theorem zqw {bs:List Int} {p e:Int} (hy:zqv bs p= .error e):(e !=0)=true:=by
 unfold zqv at hy
 cases e1:zbt bs p with
 |error x=>rw[e1]at hy;cases hy;simpa using(zb6 e1).2
 |ok k=>
 rw[e1]at hy;simp only at hy
 cases e2:zbf bs k.2 with
 |error x=>rw[e2]at hy;cases hy;simpa using(zb6 e2).2
 |ok n=>
 rw[e2]at hy;simp only at hy
 cases e3:zgy bs n.2 with
 |error x=>rw[e3]at hy;cases hy;simpa using(zb6 e3).2
 |ok s=>
 rw[e3]at hy;simp only at hy
 split at hy
 ·cases hy
 ·cases hy;rfl
theorem zn3 (bs:List Int) (p:Int) (h:BsOk bs) (hp:i64 p):CallOK Tryz.prog 90 [.f (asl bs.length (zad bs)), .f (ai p)] (fun r o=>r=[zBe (dOf zAQ (zkd bs p)).1,ri (dOf zAQ (zkd bs p)).2.1,ri (dOf zAQ (zkd bs p)).2.2]∧o=[]):=by
 refine zh Tryz.func90 Tryz.results90 Tryz.ntmps90 Tryz.call90 ?_
 simp only[Tryz.f90,Option.getD]
 unfold zkd
 cases e1:zbt bs p with
 |error e=>
  obtain⟨h1,hq⟩:=zwr h hp e1
  simp only[dOf]
  refine zL hq (h1) ?_
  rfl
 |ok k=>
 have h1:=zui h hp e1
 have p1:=zbi h e1
 simp only
 cases e2:zbf bs k.2 with
 |error e=>
  obtain⟨h2,hq⟩:=zBb h p1 e2
  simp only[dOf]
  refine zL hq (I (h1) (h2)) ?_
  rfl
 |ok n=>
 have h2:=zBa h p1 e2
 have p2:=zav h e2
 simp only
 have h3:=zuj bs n.2 h p2
 cases e3:zqv bs n.2 with
 |error e=>
  rw[e3]at h3
  have hq:(e !=0)=true:=zqw e3
  simp only[dOf]at h3⊢
  refine zL hq (I (h1) (I (h2) (h3))) ?_
  rfl
 |ok c=>
 rw[e3]at h3
 obtain⟨p3,hc⟩:=zlF h e3
 have f:=zdx hc
 have hk:=zfB h e1
 have hn:=zmx h e2
 have h4:=zf4 ⟨k.1,n.1,c.1.1,c.1.2.1,c.1.2.2⟩ (by unfold Req.ok i64;simp only;omega)
 simp only[dOf]at h3⊢
 cases hm:Req.may ⟨k.1,n.1,c.1.1,c.1.2.1,c.1.2.2⟩
 ·rw[hm]at h4
  rw[if_neg (by simp)]
  refine zL trivial (I (h1) (I (h2) (I (h3) (h4)))) ?_
  rfl
 ·rw[hm]at h4
  rw[if_pos rfl]
  refine zL trivial (I (h1) (I (h2) (I (h3) (h4)))) ?_
  rfl
theorem zij {bs:List Int} (h:BsOk bs) {p:Int} {y:Req×Int} (hy:zkd bs p= .ok y):i64 y.2∧Req.may y.1=true:=by
 unfold zkd at hy
 cases e1:zbt bs p with
 |error x=>rw[e1]at hy;cases hy
 |ok k=>
 rw[e1]at hy;simp only at hy
 cases e2:zbf bs k.2 with
 |error x=>rw[e2]at hy;cases hy
 |ok n=>
 rw[e2]at hy;simp only at hy
 cases e3:zqv bs n.2 with
 |error x=>rw[e3]at hy;cases hy
 |ok s=>
 rw[e3]at hy;simp only at hy
 split at hy
 ·rename_i hm
  cases hy
  exact⟨(zlF h e3).1,hm⟩
 ·cases hy
theorem zmw {bs:List Int} {p e:Int} (hy:zkd bs p= .error e):(e !=0)=true:=by
 unfold zkd at hy
 cases e1:zbt bs p with
 |error x=>rw[e1]at hy;cases hy;simpa using(zb6 e1).2
 |ok k=>
 rw[e1]at hy;simp only at hy
 cases e2:zbf bs k.2 with
 |error x=>rw[e2]at hy;cases hy;simpa using(zb6 e2).2
 |ok n=>
 rw[e2]at hy;simp only at hy
 cases e3:zqv bs n.2 with
 |error x=>rw[e3]at hy;cases hy;exact zqw e3
 |ok s=>
 rw[e3]at hy;simp only at hy
 split at hy
 ·cases hy
 ·cases hy;rfl
def zg4 (bs:List Int) (p:Int):Rr Batch:=match zbt bs p with
 | .error e=> .error e
 | .ok k=>if k.1>1 then .error 4 else if k.1=1 then .ok (⟨true,0,⟨0,0⟩,0,[]⟩,k.2)else match za4 (zbf bs) 4 k.2 []with
  | .error e=> .error e
  | .ok l=>match zbI bs l.2 3 with
   | .error e=> .error e
   | .ok n=>match za4 (zkd bs) n.1.toNat n.2 []with
    | .error e=> .error e
    | .ok rs=>if Batch.may ⟨false,l.1.getD 0 0,⟨l.1.getD 1 0,l.1.getD 2 0⟩,l.1.getD 3 0,rs.1⟩=true then .ok (⟨false,l.1.getD 0 0,⟨l.1.getD 1 0,l.1.getD 2 0⟩,l.1.getD 3 0,rs.1⟩,rs.2)else .error 4
abbrev zAP:Batch:=⟨false,0,⟨0,0⟩,0,[]⟩
abbrev zAv (b:Batch):RF:= .agg (b.enc.map RO.d)
theorem reqsE_snoc {l:List Req} {r:Req}:zbS (l++[r])=zbS l++r.enc:=by simp[zbS]
theorem reqs_take {l:List Req}:(zbS l).take (l.length*5)=zbS l:=zcT Req.enc 5 (fun _=>rfl) l
theorem zAw {l:List Int} (h:l.length=2):∃a b,l=[a,b]:=by
 match l,h with
 |[a,b],_=>exact⟨a,b,rfl⟩
theorem zwq {l:List Int} (h:l.length=3):∃a b c,l=[a,b,c]:=by
 match l,h with
 |[a,b,c],_=>exact⟨a,b,c,rfl⟩
theorem zy9 {l:List Int} (h:l.length=4):∃a b c d,l=[a,b,c,d]:=by
 match l,h with
 |[a,b,c,d],_=>exact⟨a,b,c,d,rfl⟩
theorem zhS {Z:List Nat} {r:Rs} {h h':Hd} {a b c d:Nat} {xs ys:List AV}:fgc Z r (.agg [.ptr h a, .ptr h b, .ptr h c, .ptr h d]::xs) (.agg [.ptr h' a, .ptr h' b, .ptr h' c, .ptr h' d]::ys)=((zu5 Z r h=true∧(⟨h.s,h.j,epZ Z h.s h.e⟩:Hd)=h')∧fgc Z r xs ys):=by
 simp only[fgc,zmO,zkw,zmR,zps,zjk,zmQ,reduceCtorEq,false_or,AV.agg.injEq,List.cons.injEq,C.ptr.injEq,and_true,Bool.and_eq_true]
 apply propext
 constructor
 ·rintro⟨⟨h1,h2⟩,h3⟩;exact⟨⟨h1.1,h2.1⟩,h3⟩
 ·rintro⟨⟨h1,h2⟩,h3⟩;exact⟨⟨⟨h1,h1,h1,h1⟩,h2,h2,h2,h2⟩,h3⟩
set_option maxHeartbeats 4000000 in
theorem zn2 (bs:List Int) (p:Int) (h:BsOk bs) (hp:i64 p):CallOK Tryz.prog 142 [.f (asl bs.length (zad bs)), .f (ai p)] (fun r o=>r=[zAv (dOf zAP (zg4 bs p)).1,ri (dOf zAP (zg4 bs p)).2.1,ri (dOf zAP (zg4 bs p)).2.2]∧o=[]):=by
 refine CallOK.nil ?_
 refine zh Tryz.func142 Tryz.results142 Tryz.ntmps142 Tryz.call142 ?_
 simp only[Tryz.f142,Option.getD]
 unfold zg4
 cases e1:zbt bs p with
 |error e=>
  obtain⟨h1,hq⟩:=zwr h hp e1
  simp only[dOf]
  repeat'(first|exact zC|refine zq hq ?_|refine zx (h1) ?_|(apply zaa<;>intro hb)|(apply I;exact zI)|(apply I<;>intro hg))
  simp[zaL,zcv,zaR,zax]
 |ok k=>
 have h1:=zui h hp e1
 have p1:=zbi h e1
 simp only
 cases g1:decide (k.1>1)
 ·rw[if_neg (by simpa using g1)]
  cases g2:(k.1==1)
  ·rw[if_neg (by simpa using g2)]
   refine zL (I g1 g2) (h1) ?_
   refine zai (τ:=Nat×Int×List Int) (fun a=>⟨(asl bs.length (zad bs)::ai a.2.1::dq2 (ptq 4::dq4 (ptq 9::zwY (.agg [.ptr ⟨9,0,1⟩ 1, .ptr ⟨9,0,1⟩ 2, .ptr ⟨9,0,1⟩ 3, .ptr ⟨9,0,1⟩ 4]::ai a.1::zu6 (zez []))))),[(4,⟨2,[obq 1 [db false,di 0,di 0,di 0,di 0, .d (.v zfs)],none,none,none,none,none,none]⟩),(9,⟨2,[obq 1 [db false,di (a.2.2.getD 0 0),di (a.2.2.getD 1 0),di (a.2.2.getD 2 0),di (a.2.2.getD 3 0), .d (.v zfs)],none,none,none,none,none,none]⟩)]⟩)
    (fun a=>a.1≤4∧i64 a.2.1∧a.2.2.length=a.1) (fun a=>za4 (zbf bs) (4 - a.1) a.2.1 a.2.2) (fun a=>4 - a.1) (0,k.2,[])
    (Gh.canon [4,9] [] [] (zk @zhS) rfl rfl) ⟨Nat.zero_le _,p1,rfl⟩ ?_
   intro⟨i,q,l⟩ ⟨hi0,hq,hl⟩ hF K hK
   simp only[Nat.sub_zero]at hi0 hq hl hF hK⊢
   refine zw ?_
   refine zaa (fun hlt=> ?_) (fun hge=> ?_)
   ·have hi:i<4:=by simp at hlt;omega
    have hw:IntKind.i64.wrap ((i:Int)+1)=((i+1:Nat):Int):=zal hi (by omega)
    have hst:4 - i=(4 - (i+1))+1:=by omega
    rw[hst,za4]at hF
    rw[←hF]
    cases x1:zbf bs q with
    |error e=>
     obtain⟨h2,hz⟩:=zBb h hq x1
     simp only[dOf]
     rcases(show i=0∨i=1∨i=2∨i=3 by omega)with rfl|rfl|rfl|rfl
     all_goals
      repeat'(first|exact zC|refine zq hz ?_|refine zx (h2) ?_|(apply zaa<;>intro hb)|(apply I;exact zI)|(apply I<;>intro hg))
      simp[zaL,zcv,zaR,zax]
    |ok x=>
    have h2:=zBa h hq x1
    have hs2:za4 (zbf bs) (4 - (i+1)) x.2 (l++[x.1])=za4 (zbf bs) (4 - i) q l:=by rw[hst,za4,x1]
    have p2:=zav h x1
    rcases(show i=0∨i=1∨i=2∨i=3 by omega)with rfl|rfl|rfl|rfl
    ·have hl0:l=[]:=List.length_eq_zero_iff.1 hl
     subst hl0
     refine zL trivial (h2) ?_
     exact hK _ (0+1,x.2,[x.1]) (Gh.canon [4,9] [] [] (zk (I hw @zhS)) rfl rfl) ⟨by simp only;omega,p2,rfl⟩ hs2 (by simp only;omega)
    ·obtain⟨a,rfl⟩:=List.length_eq_one_iff.1 hl
     refine zL trivial (h2) ?_
     exact hK _ (1+1,x.2,[a,x.1]) (Gh.canon [4,9] [] [] (zk (I hw @zhS)) rfl rfl) ⟨by simp only;omega,p2,rfl⟩ hs2 (by simp only;omega)
    ·obtain⟨a,b,rfl⟩:=zAw hl
     refine zL trivial (h2) ?_
     exact hK _ (2+1,x.2,[a,b,x.1]) (Gh.canon [4,9] [] [] (zk (I hw @zhS)) rfl rfl) ⟨by simp only;omega,p2,rfl⟩ hs2 (by simp only;omega)
    ·obtain⟨a,b,c,rfl⟩:=zwq hl
     refine zL trivial (h2) ?_
     exact hK _ (3+1,x.2,[a,b,c,x.1]) (Gh.canon [4,9] [] [] (zk (I hw @zhS)) rfl rfl) ⟨by simp only;omega,p2,rfl⟩ hs2 (by simp only;omega)
   ·have hi:i=4:=by
     have:¬(i:Int)<4:=by simpa using hge
     omega
    subst hi
    rw[Nat.sub_self,za4]at hF
    have hval:=(zec (ok:=fun v=>0≤v∧v<4611686018427387904) (fun q z hz=>⟨zav h hz,zmx h hz⟩) p1 (fun _ hx=>by cases hx) hF.symm).2.2
    rw[←hF]
    obtain⟨v0,v1,v2,v3,rfl⟩:=zy9 hl
    have q0:=hval v0 (by simp)
    have q1:=hval v1 (by simp)
    have q2:=hval v2 (by simp)
    have q3:=hval v3 (by simp)
    clear hval hF hK
    simp only[List.getD_cons_zero,List.getD_cons_succ]
    cases e3:zbI bs q 3 with
    |error e=>
     rcases zga e3 with hz|⟨z,hz,hgt,rfl⟩
     ·obtain⟨h3,hw⟩:=zwr h hq hz
      simp only[dOf]
      repeat'(first|exact zC|refine zq hw ?_|refine zx (h3) ?_|(apply zaa<;>intro hb)|(apply I;exact zI)|(apply I<;>intro hg))
      simp[zaL,zcv,zaR,zax]
     ·have h3:=zui h hq hz
      have hgt:decide (z.1>3)=true:=by simpa using hgt
      simp only[dOf]
      repeat'(first|exact zC|refine zq hgt ?_|refine zx (h3) ?_|(apply zaa<;>intro hb)|(apply I;exact zI)|(apply I<;>intro hg))
      simp[zaL,zcv,zaR,zax]
    |ok n=>
    obtain⟨hz,hle⟩:=zjj e3
    obtain⟨p3,n0,n3⟩:=zc1 h e3
    have h3:=zui h hq hz
    have hgt:decide (n.1>3)=false:=by simp;omega
    simp only
    refine zL hgt (h3) ?_
    refine zai (τ:=Nat×Int×List Req) (fun a=>⟨(asl bs.length (zad bs)::ai a.2.1::dq2 (ptq 4::dq4 (ptq 9::zzN (zez (ai n.1::ai a.1::zxW []))))),[(4,⟨2,[obq 1 [db false,di 0,di 0,di 0,di 0, .d (.v zfs)],none,none,none,none,none,none]⟩),(9,⟨2,[obq 1 [db false,di v0,di v1,di v2,di v3, .own ⟨9,6,1⟩ 0 a.2.2.length],none,none,none,none,none,roq 1 5 (zbS a.2.2)]⟩),(13,⟨2,[]⟩),(92,⟨2,[]⟩),(93,⟨2,[]⟩)]⟩)
     (fun a=>a.1≤n.1.toNat∧i64 a.2.1∧a.2.2.length=a.1∧∀r∈a.2.2,Req.may r=true) (fun a=>za4 (zkd bs) (n.1.toNat - a.1) a.2.1 a.2.2) (fun a=>n.1.toNat - a.1) (0,n.2,[])
     ((Gh.nilF 9 5 5 rfl).trans (Gh.canon [4,9] [13,92,93] [] zK rfl rfl)) ⟨Nat.zero_le _,p3,rfl,fun _ hx=>by cases hx⟩ ?_
    intro⟨i,q2,acc⟩ ⟨hi0,hq2,ha,hmy⟩ hF K hK
    simp only[Nat.sub_zero]at hi0 hq2 ha hmy hF hK⊢
    refine zw ?_
    refine zaa (fun hlt=> ?_) (fun hge=> ?_)
    ·have hi:i<n.1.toNat:=by simp at hlt;omega
     have hw:=zal hi (by omega)
     have hst:n.1.toNat - i=(n.1.toNat - (i+1))+1:=by omega
     have h4:=zn3 bs q2 h hq2
     cases x1:zkd bs q2 with
     |error e=>
      rw[←hF,hst,za4,x1]
      rw[x1]at h4
      simp only[dOf]at h4⊢
      have hz:=zmw x1
      repeat'(first|exact zC|refine zq hz ?_|refine zx (h4) ?_|(apply zaa<;>intro hb)|(apply I;exact zI)|(apply I<;>intro hg))
      simp[zaL,zcv,zaR,zax]
     |ok x=>
     rw[x1]at h4
     simp only[dOf]at h4
     have hs2:za4 (zkd bs) (n.1.toNat - (i+1)) x.2 (acc++[x.1])=za4 (zkd bs) (n.1.toNat - i) q2 acc:=by rw[hst,za4,x1]
     have hcl:(acc.length+1≤2^47)=True:=eq_true (by omega)
     obtain⟨px,mx⟩:=zij h x1
     refine zL (I @reqs_take (I @zaP hcl)) (h4) ?_
     refine hK _ (i+1,x.2,acc++[x.1]) (Gh.canon [4,9] [] [] (zk (I hw (I @List.length_append.{0} @List.length_singleton.{0}))) rfl (by simp only[List.length_append,List.length_singleton];rw[reqsE_snoc];rfl)) ⟨hi,px,by simp only[List.length_append,List.length_singleton];omega,fun r hr=> ?_⟩ hs2 (by simp only;omega)
     rcases List.mem_append.1 hr with hr|hr
     ·exact hmy r hr
     ·simp at hr;subst hr;exact mx
    ·have hi:i=n.1.toNat:=by simp at hge;omega
     rw[hi,Nat.sub_self,za4]at hF
     rw[←hF]
     simp only
     have hm:=zdz ⟨false,v0,⟨v1,v2⟩,v3,acc⟩ ⟨by unfold i64;simp only;omega,by unfold i64;simp only;omega,by unfold i64;simp only;omega,by unfold i64;simp only;omega,by simp only;omega,fun r hr=>(zes (hmy r hr)).2.2.2⟩
     clear hK hF
     cases hb:Batch.may ⟨false,v0,⟨v1,v2⟩,v3,acc⟩
     ·rw[hb]at hm
      rw[if_neg (by simp)]
      simp only[dOf]
      repeat'(first|exact zC|refine zq @reqs_take ?_|refine zx (hm) ?_|(apply zaa<;>intro hb)|(apply I;exact zI)|(apply I<;>intro hg))
      simp[zaL,zcv,zaR,zax]
     ·rw[hb]at hm
      rw[if_pos rfl]
      simp only[dOf]
      repeat'(first|exact zC|refine zq @reqs_take ?_|refine zx (hm) ?_|(apply zaa<;>intro hb)|(apply I;exact zI)|(apply I<;>intro hg))
      simp[zaL,zcv,zaR,zax, -List.length_flatMap,zaP]
  ·rw[if_pos (by simpa using g2)]
   simp only[dOf]
   repeat'(first|exact zC|refine zq (I g1 g2) ?_|refine zx (h1) ?_|(apply zaa<;>intro hb)|(apply I;exact zI)|(apply I<;>intro hg))
   simp[zaL,zcv,zaR,zax]
 ·rw[if_pos (by simpa using g1)]
  simp only[dOf]
  repeat'(first|exact zC|refine zq g1 ?_|refine zx (h1) ?_|(apply zaa<;>intro hb)|(apply I;exact zI)|(apply I<;>intro hg))
  simp[zaL,zcv,zaR,zax]
end Go.Proofs.YtliimajkpggbhaaGreat
