import Derived.Test.YtliimajkpggbhaaGreatPH
namespace Go.Proofs.YtliimajkpggbhaaGreat
open Go.Pk Tryz
set_option maxRecDepth 100000
set_option linter.unusedSimpArgs false
set_option linter.unusedVariables false
abbrev zAB:St:=⟨0,0,0,[],[],[]⟩
abbrev bat00:Batch:=⟨false,0,⟨0,0⟩,0,[]⟩
def zcR (p:Pkt):Bool:=p.ballot==0&&p.slot==0&&p.done==0&&znb p.req ⟨0,0,0,0, .empty⟩&&p.ans.client==0&&p.ans.seq==0&&p.ans.reply.code==0&&p.ans.reply.session==0&&p.ans.reply.ahead==0&&(p.ans.reply.held.length:Int)==0&&
 eqBa p.bat bat00&&p.prom.src==0&&p.prom.done==0&&((p.prom.tip.view==0)&&(p.prom.tip.slot==0))&&p.prom.time==0&&(p.prom.votes.length:Int)==0&&p.snap.done==0&&((p.snap.view==0)&&(p.snap.slot==0))&&zsJ p.snap.st zAB
theorem ziC (v a:Int):CallOK prog 36 [.f (ai v), .f (ai a)] (fun r o=>r=[rb (decide (v≥a)&&decide (v≤2305843009213693952))]∧o=[]):=by
 refine zh func36 results36 ntmps36 call36 ?_
 simp only[f36,Option.getD]
 exact zW0 trivial
set_option maxHeartbeats 2000000 in
theorem zcY (p:Pkt) (h:p.ok):CallOK prog 40 [.f (.agg p.lent)] (fun r o=>r=[rb (zcR p)]∧o=[]):=by
 refine zh func40 results40 ntmps40 call40 ?_
 simp only[f40,Option.getD]
 have h1:=zvx p.bat bat00 h.bl (by simp)
 have h2:=zxK p.snap.st zAB h.snap ⟨by simp,by simp,by simp,by simp,by simp⟩
 refine zL trivial (I (h1) (h2)) ?_
 rfl
abbrev inW (v a:Int):Bool:=decide (v≥a)&&decide (v≤2305843009213693952)
def zAe (p:Pkt):Pkt:=if p.kind=1 then {p with req:=⟨0,0,0,0, .empty⟩}else if p.kind=2 then {p with ans:=⟨0,0,⟨0,0,0,[]⟩⟩}else if p.kind=3 then {p with ballot:=0}else if p.kind=4 then {p with ballot:=0,prom:=⟨0,0,⟨0,0⟩,0,[]⟩}else if p.kind=5 then {p with ballot:=0,slot:=0,bat:=bat00}else if p.kind=6 then {p with ballot:=0,slot:=0,bat:=bat00}else if p.kind=7 then {p with ballot:=0,done:=0}else if p.kind=8 then {p with done:=0}else if p.kind=9 then {p with snap:=⟨0,0,0,zAB⟩}else p
def okP (p:Pkt):Bool:=if p.kind=1 then Req.may p.req else if p.kind=2 then answerB p.ans else if p.kind=3 then inW p.ballot 0 else if p.kind=4 then inW p.ballot 0&&Prom.may p.prom else if p.kind=5 then inW p.ballot 0&&inW p.slot 1&&Batch.may p.bat else if p.kind=6 then inW p.ballot 0&&inW p.slot 1&&Batch.may p.bat else if p.kind=7 then inW p.ballot 0&&inW p.done 0 else if p.kind=8 then inW p.done 0 else if p.kind=9 then zbt p.snap else false
def ziV (p:Pkt):Bool:=okP p&&zcR (zAe p)
theorem kinds (k:Int):k=1∨k=2∨k=3∨k=4∨k=5∨k=6∨k=7∨k=8∨k=9∨((k==1)=false∧(k==2)=false∧(k==3)=false∧(k==4)=false∧(k==5)=false∧(k==6)=false∧(k==7)=false∧(k==8)=false∧(k==9)=false):=by
 simp only[beq_eq_false_iff_ne,ne_eq];omega
theorem zvv:Small zAB:=⟨by simp,by simp,by simp,by simp,by simp⟩
theorem zdy:i64 0:=by unfold i64;omega
theorem zyM:bat00.ok:=⟨zdy,zdy,zdy,zdy,by simp,by simp⟩
set_option maxHeartbeats 4000000 in
theorem zcy (p:Pkt) (h:p.ok):CallOK prog 13 [.f (.agg p.lent)] (fun r o=>r=[rb (ziV p)]∧o=[]):=by
 refine zh func13 results13 ntmps13 call13 ?_
 simp only[f13,Option.getD]
 obtain⟨kind,ballot,slot,done,req,ans,bat,prom,snap⟩:=p
 obtain⟨hk,hb,hs,hd,hreq,hans,hbat,hbl,hprom,hpl,hvl,hsn⟩:=h
 simp only at hk hb hs hd hreq hans hbat hbl hprom hpl hvl hsn
 have w1:=ziC ballot 0
 have w2:=ziC slot 1
 have w3:=ziC done 0
 rcases kinds kind with rfl|rfl|rfl|rfl|rfl|rfl|rfl|rfl|rfl|⟨k1,k2,k3,k4,k5,k6,k7,k8,k9⟩
 ·have he:=zcY ⟨1,ballot,slot,done,⟨0,0,0,0, .empty⟩,ans,bat,prom,snap⟩ ⟨hk,hb,hs,hd,⟨zdy,zdy,zdy,zdy,(by show(ByteArray.empty).size<2^62;decide)⟩,hans,hbat,hbl,hprom,hpl,hvl,hsn⟩
  have hm:=zgd req hreq
  refine zL trivial (I (hm) (he)) ?_
  rfl
 ·have he:=zcY ⟨2,ballot,slot,done,req,⟨0,0,⟨0,0,0,[]⟩⟩,bat,prom,snap⟩ ⟨hk,hb,hs,hd,hreq,⟨by simp,by simp⟩,hbat,hbl,hprom,hpl,hvl,hsn⟩
  have hm:=zeQ ans hans
  refine zL trivial (I (hm) (he)) ?_
  rfl
 ·have he:=zcY ⟨3,0,slot,done,req,ans,bat,prom,snap⟩ ⟨hk,zdy,hs,hd,hreq,hans,hbat,hbl,hprom,hpl,hvl,hsn⟩
  refine zL trivial (I (w1) (he)) ?_
  rfl
 ·have he:=zcY ⟨4,0,slot,done,req,ans,bat,⟨0,0,⟨0,0⟩,0,[]⟩,snap⟩ ⟨hk,zdy,hs,hd,hreq,hans,hbat,hbl,⟨zdy,zdy,zdy,zdy,zdy,by simp,by simp⟩,by simp,by simp,hsn⟩
  have hm:=zsD prom hprom
  refine zL trivial (I (hm) (I (w1) (he))) ?_
  rfl
 ·have he:=zcY ⟨5,0,0,done,req,ans,bat00,prom,snap⟩ ⟨hk,zdy,zdy,hd,hreq,hans,zyM,by simp,hprom,hpl,hvl,hsn⟩
  have hm:=zdH bat hbat
  refine zL trivial (I (hm) (I (w1) (I (w2) (he)))) ?_
  rfl
 ·have he:=zcY ⟨6,0,0,done,req,ans,bat00,prom,snap⟩ ⟨hk,zdy,zdy,hd,hreq,hans,zyM,by simp,hprom,hpl,hvl,hsn⟩
  have hm:=zdH bat hbat
  refine zL trivial (I (hm) (I (w1) (I (w2) (he)))) ?_
  rfl
 ·have he:=zcY ⟨7,0,slot,0,req,ans,bat,prom,snap⟩ ⟨hk,zdy,hs,zdy,hreq,hans,hbat,hbl,hprom,hpl,hvl,hsn⟩
  refine zL trivial (I (w1) (I (w3) (he))) ?_
  rfl
 ·have he:=zcY ⟨8,ballot,slot,0,req,ans,bat,prom,snap⟩ ⟨hk,hb,hs,zdy,hreq,hans,hbat,hbl,hprom,hpl,hvl,hsn⟩
  refine zL trivial (I (w3) (he)) ?_
  rfl
 ·have he:=zcY ⟨9,ballot,slot,done,req,ans,bat,prom,⟨0,0,0,zAB⟩⟩ ⟨hk,hb,hs,hd,hreq,hans,hbat,hbl,hprom,hpl,hvl,zvv⟩
  have hm:=zie snap hsn
  refine zL trivial (I (hm) (he)) ?_
  rfl
 ·have he:=zcY ⟨kind,ballot,slot,done,req,ans,bat,prom,snap⟩ ⟨hk,hb,hs,hd,hreq,hans,hbat,hbl,hprom,hpl,hvl,hsn⟩
  have hz:ziV ⟨kind,ballot,slot,done,req,ans,bat,prom,snap⟩=false:=by
   simp only[beq_eq_false_iff_ne,ne_eq]at k1 k2 k3 k4 k5 k6 k7 k8 k9
   unfold ziV okP
   simp only[k1,k2,k3,k4,k5,k6,k7,k8,k9,if_false,Bool.false_and]
  rw[hz]
  exact zW (I k1 (I k2 (I k3 (I k4 (I k5 (I k6 (I k7 (I k8 k9)))))))) (he)
def zi3 (v:Vote):List Int:=zaL [v.slot,v.ballot]++zeR v.batch
abbrev zoR (p:Prom):List Int:=[p.done,p.tip.view,p.tip.slot,p.time]
def pr0 (p:Prom):List Int:=[p.src]++(zaL (zoR p)++[(p.votes.length:Int)])
def pr1 (p:Prom) (i:Nat):List Int:=pr0 p++(p.votes.take i).flatMap zi3
def zeG (p:Prom):List Int:=pr1 p p.votes.length
theorem zrm {p:Prom}:pr1 p 0=pr0 p:=by simp[pr1]
theorem zvs (p:Prom):(pr0 p).length=34:=by simp[pr0,zbA]
theorem zjr {b:Batch} (h:Batch.may b=true):(zeR b).length≤127:=by
 unfold zeR
 split
 ·simp
 ·obtain⟨h1,h2⟩:=zeC h
  have:=zvn h2 b.reqs.length
  omega
theorem zvt {v:Vote} (h:Batch.may v.batch=true):(zi3 v).length≤143:=by
 have:=zjr h
 rw[zi3,List.length_append,zbA]
 simp only[List.length_cons,List.length_nil]
 omega
theorem zxA {p:Prom} {i:Nat} (hi:i<p.votes.length):pr1 p (i+1)=pr1 p i++zi3 p.votes[i]:=by
 rw[pr1,zdc _ hi,pr1,List.append_assoc]
theorem zvu {p:Prom} (h:∀v∈p.votes,Batch.may v.batch=true) (i:Nat):(pr1 p i).length≤34+i*143:=by
 have:=zef zi3 (l:=p.votes.take i) (k:=143) fun v hv=>zvt (h v (List.mem_of_mem_take hv))
 have h2:(p.votes.take i).length*143≤i*143:=Nat.mul_le_mul_right _ (by rw[List.length_take];omega)
 rw[pr1,List.length_append,zvs]
 omega
theorem zoS {p:Prom} (m:MayP p):∀v∈zoR p,0≤v∧v<4611686018427387904:=by
 intro v hv
 have:=m.done
 have:=m.view
 have:=m.slot
 have:=m.time
 simp only[zoR,List.mem_cons,List.not_mem_nil,or_false]at hv
 rcases hv with rfl|rfl|rfl|rfl<;>omega
theorem zkE {p:Prom} (m:MayP p) {v:Vote} (hv:v∈p.votes):(∀x∈[v.slot,v.ballot],0≤x∧x<4611686018427387904)∧Batch.may v.batch=true:=by
 obtain⟨_,_,h1,h2,h3⟩:=m.votes v hv
 have:=bad_false h1
 have:=bad_false h2
 refine⟨fun x hx=> ?_,h3⟩
 simp only[List.mem_cons,List.not_mem_nil,or_false]at hx
 rcases hx with rfl|rfl<;>omega
set_option maxHeartbeats 2000000 in
theorem zsu (p:Prom) (m:MayP p):CallOK prog 25 [.f (.agg p.lent)] (fun x o=>x=[.one (.own 1 (zeG p).length (zad (zeG p)) false)]∧o=[]):=by
 refine zh func25 results25 ntmps25 call25 ?_
 simp only[f25,Option.getD]
 have hsrc:=m.src
 have hvl:=m.len
 have hmay:∀v∈p.votes,Batch.may v.batch=true:=fun v hv=>(m.votes v hv).2.2.2.2
 have w1:IntKind.u8.wrap p.src=p.src:=zd0 (by omega) (by omega)
 have w2:IntKind.u8.wrap (p.votes.length:Int)=p.votes.length:=zd0 (by omega) (by omega)
 have hpn:=zge (zoR p) (by simp) (zoS m)
 have hcc:CallOK prog 66 [.f (al 3 [.sl 1 (zad [p.src]), .sl (zaL (zoR p)).length (zad (zaL (zoR p))), .sl 1 (zad [(p.votes.length:Int)])])] (fun x o=>x=[.one (.own 1 (pr0 p).length (zad (pr0 p)) false)]∧o=[]):=by
  have hc:=zga [[p.src],zaL (zoR p),[(p.votes.length:Int)]] (by simp) (fun l hl=>by
   simp only[List.mem_cons,List.not_mem_nil,or_false]at hl
   rcases hl with rfl|rfl|rfl
   ·simp
   ·rw[zbA];simp
   ·simp)
  rw[show [[p.src],zaL (zoR p),[(p.votes.length:Int)]].flatten=pr0 p from by simp[pr0]]at hc
  exact hc
 have t1:∀x:Int,toDs (sub 0 1 1 [C.d (uD x)])=some [uD x]:=fun _=>rfl
 have t4:∀a b c d:Int,toDs (sub 0 4 1 [di a,di b,di c,di d])=some [iD a,iD b,iD c,iD d]:=fun _ _ _ _=>rfl
 refine zL (I t1 (I t4 (I w1 (I w2 @zau)))) (I (hpn) (hcc)) ?_
 refine zaf (τ:=Nat) (fun i=>⟨(dq3 (.one (.own ⟨3,1,1⟩ 0 (pr1 p i).length)::zwf (al p.votes.length (zbv p.votes)::ai p.votes.length::ai i::zpf []))),[(1,⟨2,[]⟩),(11,⟨2,[]⟩),(22,⟨2,[]⟩),(23,⟨2,[]⟩),(28,⟨2,[]⟩),(29,⟨2,[]⟩),(30,⟨2,[]⟩),(3,⟨2,[none,roq 1 1 (zad (pr1 p i))]⟩),(5,⟨2,[]⟩),(6,⟨2,[]⟩),(41,⟨2,[]⟩),(49,⟨2,[]⟩),(50,⟨2,[]⟩),(52,⟨2,[]⟩),(53,⟨2,[]⟩)]⟩)
  (fun i=>i≤p.votes.length) (fun _=>()) (fun i=>p.votes.length - i) 0
  (Gh.canon [3] [5,6,41,49,50,52,53] [] (zk @zrm) rfl (by rw[zrm];rfl)) (Nat.zero_le _) ?_
 intro i hi0 hF K hK
 refine zw ?_
 refine zaa (fun hlt=> ?_) (fun hge=> ?_)
 ·have hi:i<p.votes.length:=by simpa using hlt
  have hat:=zjc hi
  have hw:=zai hi (by omega)
  obtain⟨vn,vm⟩:=zkE m (List.getElem_mem hi)
  have hb:=zkB p.votes[i].batch vm
  have hn:=zge [p.votes[i].slot,p.votes[i].ballot] (by simp) vn
  have hl0:=zvu hmay i
  have hl1:=zjr vm
  have hsl:=zxA hi
  have hcc:CallOK prog 66 [.f (al 3 [.sl (pr1 p i).length (zad (pr1 p i)), .sl (zaL [p.votes[i].slot,p.votes[i].ballot]).length (zad (zaL [p.votes[i].slot,p.votes[i].ballot])), .sl (zeR p.votes[i].batch).length (zad (zeR p.votes[i].batch))])] (fun x o=>x=[.one (.own 1 (pr1 p (i+1)).length (zad (pr1 p (i+1))) false)]∧o=[]):=by
   have hc:=zga [pr1 p i,zaL [p.votes[i].slot,p.votes[i].ballot],zeR p.votes[i].batch] (by simp) (fun l hl=>by
    simp only[List.mem_cons,List.not_mem_nil,or_false]at hl
    rcases hl with rfl|rfl|rfl
    ·omega
    ·rw[zbA];simp
    ·omega)
   rw[show [pr1 p i,zaL [p.votes[i].slot,p.votes[i].ballot],zeR p.votes[i].batch].flatten=pr1 p (i+1) from by rw[hsl];simp[zi3]]at hc
   exact hc
  have t2:∀a b:Int,toDs (sub 0 2 1 [di a,di b])=some [iD a,iD b]:=fun _ _=>rfl
  refine zL (I hat (I @zaO (I t2 (I @zau zca)))) (I (hb) (I (hn) (hcc))) ?_
  exact hK _ (i+1) (Gh.canon [3] [] [] (zk hw) rfl rfl) hi rfl (by omega)
 ·have hi:i=p.votes.length:=by
   have:¬(i:Int)<p.votes.length:=by simpa using hge
   omega
  subst hi
  refine zL0 trivial ?_
  rfl
def zk2 (p:Pkt):List Int:=if p.kind=1 then ziA p.req else if p.kind=2 then zbd p.ans else if p.kind=3 then zaL [p.ballot]else if p.kind=4 then zaL [p.ballot]++zeG p.prom else if p.kind=5 then zaL [p.ballot,p.slot]++zeR p.bat else if p.kind=6 then zaL [p.ballot,p.slot]++zeR p.bat else if p.kind=7 then zaL [p.ballot,p.done]else if p.kind=8 then zaL [p.done]else snI p.snap
def pkI (p:Pkt):List Int:=[p.kind]++zk2 p
theorem zgf {p:Pkt} (h:ziV p=true):okP p=true∧zcR (zAe p)=true:=by
 unfold ziV at h
 simpa using h
theorem zfx {v a:Int} (h:inW v a=true) (ha:0≤a):0≤v∧v<4611686018427387904:=by
 simp only[inW,Bool.and_eq_true,decide_eq_true_eq]at h
 omega
theorem zAb {a:Int} (h:0≤a∧a<4611686018427387904):∀v∈[a],0≤v∧v<4611686018427387904:=fun v hv=>by
 simp only[List.mem_cons,List.not_mem_nil,or_false]at hv
 rw[hv];exact h
theorem zAc {a b:Int} (h:0≤a∧a<4611686018427387904) (h2:0≤b∧b<4611686018427387904):∀v∈[a,b],0≤v∧v<4611686018427387904:=fun v hv=>by
 simp only[List.mem_cons,List.not_mem_nil,or_false]at hv
 rcases hv with rfl|rfl<;>assumption
theorem zAd {s:Sn} (h:zbt s=true):(snI s).length≤1200:=by
 obtain⟨_,_,_,hr⟩:=zd6 h
 have h1:=zpx hr s.st.memos.length
 have h2:=zhQ hr
 unfold snI zd4
 simp only[List.length_append,zaY]
 omega
theorem zvr {p:Prom} (m:MayP p):(zeG p).length≤1321:=by
 have:=zvu (fun v hv=>(m.votes v hv).2.2.2.2) p.votes.length
 have:=m.len
 unfold zeG
 omega
theorem zkD {p:Pkt} (h:ziV p=true):(zk2 p).length≤1400:=by
 have ho:=(zgf h).1
 obtain⟨kind,ballot,slot,done,req,ans,bat,prom,snap⟩:=p
 rcases kinds kind with rfl|rfl|rfl|rfl|rfl|rfl|rfl|rfl|rfl|⟨k1,k2,k3,k4,k5,k6,k7,k8,k9⟩
 ·have:=zm9 (show Req.may req=true from ho)
  show(ziA req).length≤_
  omega
 ·have:=zg9 (show answerB ans=true from ho)
  show(zbd ans).length≤_
  omega
 ·show(zaL [ballot]).length≤_
  rw[zbA];simp
 ·have ho:(inW ballot 0&&Prom.may prom)=true:=ho
  rw[Bool.and_eq_true]at ho
  have:=zvr (zl5 ho.2)
  show(zaL [ballot]++zeG prom).length≤_
  rw[List.length_append,zbA];simp only[List.length_singleton];omega
 ·have ho:(inW ballot 0&&inW slot 1&&Batch.may bat)=true:=ho
  rw[Bool.and_eq_true]at ho
  have:=zjr ho.2
  show(zaL [ballot,slot]++zeR bat).length≤_
  rw[List.length_append,zbA];simp only[List.length_cons,List.length_nil];omega
 ·have ho:(inW ballot 0&&inW slot 1&&Batch.may bat)=true:=ho
  rw[Bool.and_eq_true]at ho
  have:=zjr ho.2
  show(zaL [ballot,slot]++zeR bat).length≤_
  rw[List.length_append,zbA];simp only[List.length_cons,List.length_nil];omega
 ·show(zaL [ballot,done]).length≤_
  rw[zbA];simp
 ·show(zaL [done]).length≤_
  rw[zbA];simp
 ·have:=zAd (show zbt snap=true from ho)
  show(snI snap).length≤_
  omega
 ·simp only[beq_eq_false_iff_ne,ne_eq]at k1 k2 k3 k4 k5 k6 k7 k8 k9
  unfold okP at ho
  simp only[k1,k2,k3,k4,k5,k6,k7,k8,k9,if_false]at ho
  cases ho
theorem put_eq (k:Int) (l:List Int):[RF.one (.own 1 (1+l.length) (uD k::zad l) false),ri 0]=[RF.one (.own 1 ([k]++l).length (zad ([k]++l)) false),ri 0]:=by
 simp[zad,Nat.add_comm]
theorem zpV (k:Int) (a b:List Int):[RF.one (.own 1 (1+(a.length+b.length)) (uD k::(zad a++zad b)) false),ri 0]=[RF.one (.own 1 ([k]++(a++b)).length (zad ([k]++(a++b))) false),ri 0]:=by
 simp[zad,Nat.add_comm]
theorem zdT (p:Pkt) (hp:p.ok) (h:ziV p=false):CallOK prog 11 [.f (.agg p.lent)] (fun r o=>r=[.one (.d (.v zfC)),ri 1]∧o=[]):=by
 refine zh func11 results11 ntmps11 call11 ?_
 simp only[f11,Option.getD]
 have hm:=zcy p hp
 rw[h]at hm
 exact zW trivial (hm)
set_option maxHeartbeats 4000000 in
theorem zgg (p:Pkt) (hp:p.ok) (h:ziV p=true):CallOK prog 11 [.f (.agg p.lent)] (fun r o=>r=[.one (.own 1 (pkI p).length (zad (pkI p)) false),ri 0]∧o=[]):=by
 refine zh func11 results11 ntmps11 call11 ?_
 simp only[f11,Option.getD]
 have hm:=zcy p hp
 rw[h]at hm
 have ho:=(zgf h).1
 have hl:=zkD h
 obtain⟨kind,ballot,slot,done,req,ans,bat,prom,snap⟩:=p
 have t1:∀x:Int,toDs (sub 0 1 1 [di x])=some [iD x]:=fun _=>rfl
 have t2:∀x y:Int,toDs (sub 0 2 1 [di x,di y])=some [iD x,iD y]:=fun _ _=>rfl
 rcases kinds kind with rfl|rfl|rfl|rfl|rfl|rfl|rfl|rfl|rfl|⟨k1,k2,k3,k4,k5,k6,k7,k8,k9⟩
 ·have hc:=zoP req ho
  have w:IntKind.u8.wrap 1=1:=zd0 (by omega) (by omega)
  have hle:(1+(ziA req).length≤2^47)=True:=eq_true (by have hl:(ziA req).length≤1400:=hl;omega)
  refine zL (I t1 (I t2 (I w (I hle (I @zau @List.length_map.{0,0}))))) (I (hm) (hc)) ?_
  exact put_eq _ _
 ·have hc:=ziP ans ho
  have w:IntKind.u8.wrap 2=2:=zd0 (by omega) (by omega)
  have hle:(1+(zbd ans).length≤2^47)=True:=eq_true (by have hl:(zbd ans).length≤1400:=hl;omega)
  refine zL (I t1 (I t2 (I w (I hle (I @zau @List.length_map.{0,0}))))) (I (hm) (hc)) ?_
  exact put_eq _ _
 ·have hc:=zge [ballot] (by simp) (zAb (zfx (show inW ballot 0=true from ho) (by omega)))
  have w:IntKind.u8.wrap 3=3:=zd0 (by omega) (by omega)
  have hle:(1+(zaL [ballot]).length≤2^47)=True:=eq_true (by have hl:(zaL [ballot]).length≤1400:=hl;omega)
  refine zL (I t1 (I t2 (I w (I hle (I @zau @List.length_map.{0,0}))))) (I (hm) (hc)) ?_
  exact put_eq _ _
 ·have ho:(inW ballot 0&&Prom.may prom)=true:=ho
  rw[Bool.and_eq_true]at ho
  have hc:=zge [ballot] (by simp) (zAb (zfx ho.1 (by omega)))
  have hc2:=zsu prom (zl5 ho.2)
  have w:IntKind.u8.wrap 4=4:=zd0 (by omega) (by omega)
  have hle:(1+((zaL [ballot]).length+(zeG prom).length)≤2^47)=True:=eq_true (by have hl:(zaL [ballot]++zeG prom).length≤1400:=hl;rw[List.length_append]at hl;omega)
  have hle2:((zaL [ballot]).length+(zeG prom).length≤2^47)=True:=eq_true (by have hl:(zaL [ballot]++zeG prom).length≤1400:=hl;rw[List.length_append]at hl;omega)
  have tk:(zad (zaL [ballot])++zad (zeG prom)).take ((zaL [ballot]).length+(zeG prom).length)=zad (zaL [ballot])++zad (zeG prom):=List.take_of_length_le (by simp)
  refine zL (I t1 (I t2 (I w (I hle (I hle2 (I tk (I @zau @List.length_map.{0,0}))))))) (I (hm) (I (hc) (hc2))) ?_
  exact zpV _ _ _
 ·have ho:(inW ballot 0&&inW slot 1&&Batch.may bat)=true:=ho
  rw[Bool.and_eq_true,Bool.and_eq_true]at ho
  have hc:=zge [ballot,slot] (by simp) (zAc (zfx ho.1.1 (by omega)) (zfx ho.1.2 (by omega)))
  have hc2:=zkB bat ho.2
  have w:IntKind.u8.wrap 5=5:=zd0 (by omega) (by omega)
  have hle:(1+((zaL [ballot,slot]).length+(zeR bat).length)≤2^47)=True:=eq_true (by have hl:(zaL [ballot,slot]++zeR bat).length≤1400:=hl;rw[List.length_append]at hl;omega)
  have hle2:((zaL [ballot,slot]).length+(zeR bat).length≤2^47)=True:=eq_true (by have hl:(zaL [ballot,slot]++zeR bat).length≤1400:=hl;rw[List.length_append]at hl;omega)
  have tk:(zad (zaL [ballot,slot])++zad (zeR bat)).take ((zaL [ballot,slot]).length+(zeR bat).length)=zad (zaL [ballot,slot])++zad (zeR bat):=List.take_of_length_le (by simp)
  refine zL (I t1 (I t2 (I w (I hle (I hle2 (I tk (I @zau @List.length_map.{0,0}))))))) (I (hm) (I (hc) (hc2))) ?_
  exact zpV _ _ _
 ·have ho:(inW ballot 0&&inW slot 1&&Batch.may bat)=true:=ho
  rw[Bool.and_eq_true,Bool.and_eq_true]at ho
  have hc:=zge [ballot,slot] (by simp) (zAc (zfx ho.1.1 (by omega)) (zfx ho.1.2 (by omega)))
  have hc2:=zkB bat ho.2
  have w:IntKind.u8.wrap 6=6:=zd0 (by omega) (by omega)
  have hle:(1+((zaL [ballot,slot]).length+(zeR bat).length)≤2^47)=True:=eq_true (by have hl:(zaL [ballot,slot]++zeR bat).length≤1400:=hl;rw[List.length_append]at hl;omega)
  have hle2:((zaL [ballot,slot]).length+(zeR bat).length≤2^47)=True:=eq_true (by have hl:(zaL [ballot,slot]++zeR bat).length≤1400:=hl;rw[List.length_append]at hl;omega)
  have tk:(zad (zaL [ballot,slot])++zad (zeR bat)).take ((zaL [ballot,slot]).length+(zeR bat).length)=zad (zaL [ballot,slot])++zad (zeR bat):=List.take_of_length_le (by simp)
  refine zL (I t1 (I t2 (I w (I hle (I hle2 (I tk (I @zau @List.length_map.{0,0}))))))) (I (hm) (I (hc) (hc2))) ?_
  exact zpV _ _ _
 ·have ho:(inW ballot 0&&inW done 0)=true:=ho
  rw[Bool.and_eq_true]at ho
  have hc:=zge [ballot,done] (by simp) (zAc (zfx ho.1 (by omega)) (zfx ho.2 (by omega)))
  have w:IntKind.u8.wrap 7=7:=zd0 (by omega) (by omega)
  have hle:(1+(zaL [ballot,done]).length≤2^47)=True:=eq_true (by have hl:(zaL [ballot,done]).length≤1400:=hl;omega)
  refine zL (I t1 (I t2 (I w (I hle (I @zau @List.length_map.{0,0}))))) (I (hm) (hc)) ?_
  exact put_eq _ _
 ·have hc:=zge [done] (by simp) (zAb (zfx (show inW done 0=true from ho) (by omega)))
  have w:IntKind.u8.wrap 8=8:=zd0 (by omega) (by omega)
  have hle:(1+(zaL [done]).length≤2^47)=True:=eq_true (by have hl:(zaL [done]).length≤1400:=hl;omega)
  refine zL (I t1 (I t2 (I w (I hle (I @zau @List.length_map.{0,0}))))) (I (hm) (hc)) ?_
  exact put_eq _ _
 ·have hc:=zry snap ho
  have w:IntKind.u8.wrap 9=9:=zd0 (by omega) (by omega)
  have hle:(1+(snI snap).length≤2^47)=True:=eq_true (by have hl:(snI snap).length≤1400:=hl;omega)
  refine zL (I t1 (I t2 (I w (I hle (I @zau @List.length_map.{0,0}))))) (I (hm) (hc)) ?_
  exact put_eq _ _
 ·simp only[beq_eq_false_iff_ne,ne_eq]at k1 k2 k3 k4 k5 k6 k7 k8 k9
  unfold okP at ho
  simp only[k1,k2,k3,k4,k5,k6,k7,k8,k9,if_false]at ho
  cases ho
theorem zm6 {bs:List Int} {p:Int} {y:Int×Int} (h:BsOk bs) (hy:zaW bs p= .ok y):0≤y.1∧y.1<4611686018427387904:=by
 obtain⟨_,rfl⟩:=zcb hy
 unfold zfj
 split
 ·simp
 ·split
  ·rename_i h2
   exact⟨(zir fun c hc=>h.b _ (List.mem_of_mem_drop (List.mem_of_mem_take hc))).1,h2⟩
  ·simp
theorem zvl {bs:List Int} {p:Int} (h:BsOk bs) (hp:i64 p) {y:Int×Int} (hy:zaU bs p= .ok y):CallOK prog 138 [.f (asl bs.length (zad bs)), .f (ai p)] (fun r o=>r=[ri y.1,ri y.2,ri 0]∧o=[]):=by
 obtain⟨h0,rfl⟩:=zcb hy
 have:=zdL bs p h hp
 rwa[h0]at this
theorem zxy {bs:List Int} {p:Int} (h:BsOk bs) (hp:i64 p) {e:Int} (hy:zaU bs p= .error e):CallOK prog 138 [.f (asl bs.length (zad bs)), .f (ai p)] (fun r o=>r=[ri (zbf bs p).1,ri (zbf bs p).2.1,ri e]∧o=[])∧(e !=0)=true:=by
 obtain⟨h0,h2⟩:=zcc hy
 have:=zdL bs p h hp
 rw[h0]at this
 exact⟨this,by simpa using h2⟩
theorem zCc {bs:List Int} {p:Int} (h:BsOk bs) (hp:i64 p) {y:Int×Int} (hy:zaW bs p= .ok y):CallOK prog 139 [.f (asl bs.length (zad bs)), .f (ai p)] (fun r o=>r=[ri y.1,ri y.2,ri 0]∧o=[]):=by
 obtain⟨h0,rfl⟩:=zcb hy
 have:=zfr bs p h hp
 rwa[h0]at this
theorem zCd {bs:List Int} {p:Int} (h:BsOk bs) (hp:i64 p) {e:Int} (hy:zaW bs p= .error e):CallOK prog 139 [.f (asl bs.length (zad bs)), .f (ai p)] (fun r o=>r=[ri (zfj bs p).1,ri (zfj bs p).2.1,ri e]∧o=[])∧(e !=0)=true:=by
 obtain⟨h0,h2⟩:=zcc hy
 have:=zfr bs p h hp
 rw[h0]at this
 exact⟨this,by simpa using h2⟩
theorem zCe {bs:List Int} {p:Int} (h:BsOk bs) (hp:i64 p) {y:ByteArray×Int} (hy:zd7 bs p= .ok y):CallOK prog 175 [.f (asl bs.length (zad bs)), .f (ai p), .f (ai 12)] (fun r o=>r=[.one (.d (sD y.1)),ri y.2,ri 0]∧o=[]):=by
 obtain⟨h0,rfl⟩:=zcb hy
 have:=zhS bs p 12 h hp
 rwa[h0]at this
theorem zCf {bs:List Int} {p:Int} (h:BsOk bs) (hp:i64 p) {e:Int} (hy:zd7 bs p= .error e):CallOK prog 175 [.f (asl bs.length (zad bs)), .f (ai p), .f (ai 12)] (fun r o=>r=[.one (.d (sD (zcq bs p 12).1)),ri (zcq bs p 12).2.1,ri e]∧o=[])∧(e !=0)=true:=by
 obtain⟨h0,h2⟩:=zcc hy
 have:=zhS bs p 12 h hp
 rw[h0]at this
 exact⟨this,by simpa using h2⟩
abbrev Cm:=Int×Int×ByteArray
def dOf {α:Type} (z:α) (r:Rr α):α×Int×Int:=match r with
 | .ok y=>(y.1,y.2,0)
 | .error e=>(z,0,e)
def znm (bs:List Int) (p:Int):Rr Cm:=match zaU bs p with
 | .error e=> .error e
 | .ok k=>match zaW bs k.2 with
  | .error e=> .error e
  | .ok n=>match zd7 bs n.2 with
   | .error e=> .error e
   | .ok s=>if zk1 k.1 n.1 s.1=true then .ok ((k.1,n.1,s.1),s.2)else .error 4
abbrev zE8 (c:Cm):RF:= .agg [.d (iD c.1), .d (iD c.2.1), .d (sD c.2.2)]
abbrev cm0:Cm:=(0,0, .empty)
theorem zvm (bs:List Int) (p:Int) (h:BsOk bs) (hp:i64 p):CallOK prog 140 [.f (asl bs.length (zad bs)), .f (ai p)] (fun r o=>r=[zE8 (dOf cm0 (znm bs p)).1,ri (dOf cm0 (znm bs p)).2.1,ri (dOf cm0 (znm bs p)).2.2]∧o=[]):=by
 refine zh func140 results140 ntmps140 call140 ?_
 simp only[f140,Option.getD]
 unfold znm
 cases e1:zaU bs p with
 |error e=>
  obtain⟨h1,hq⟩:=zxy h hp e1
  simp only[dOf]
  exact zW hq (h1)
 |ok k=>
 have h1:=zvl h hp e1
 have p1:=zbp h e1
 simp only
 cases e2:zaW bs k.2 with
 |error e=>
  obtain⟨h2,hq⟩:=zCd h p1 e2
  simp only[dOf]
  exact zW hq (I (h1) (h2))
 |ok n=>
 have h2:=zCc h p1 e2
 have p2:=zaw h e2
 simp only
 cases e3:zd7 bs n.2 with
 |error e=>
  obtain⟨h3,hq⟩:=zCf h p2 e3
  simp only[dOf]
  exact zW hq (I (h1) (I (h2) (h3)))
 |ok s=>
 have h3:=zCe h p2 e3
 have hs:s.1.size<2^62:=by have:=zld e3;have:=h.l;omega
 have h4:=zrd k.1 n.1 s.1 hs
 simp only
 cases hm:zk1 k.1 n.1 s.1
 ·rw[hm]at h4
  rw[if_neg (by simp)]
  simp only[dOf]
  exact zW trivial (I (h1) (I (h2) (I (h3) (h4))))
 ·rw[hm]at h4
  rw[if_pos rfl]
  simp only[dOf]
  exact zW trivial (I (h1) (I (h2) (I (h3) (h4))))
def ziz (bs:List Int) (p:Int):Rr Req:=match zaU bs p with
 | .error e=> .error e
 | .ok k=>match zaW bs k.2 with
  | .error e=> .error e
  | .ok n=>match znm bs n.2 with
   | .error e=> .error e
   | .ok c=>if Req.may ⟨k.1,n.1,c.1.1,c.1.2.1,c.1.2.2⟩=true then .ok (⟨k.1,n.1,c.1.1,c.1.2.1,c.1.2.2⟩,c.2)else .error 4
abbrev zCg (r:Req):RF:= .agg (r.enc.map RO.d)
abbrev zBT:Req:=⟨0,0,0,0, .empty⟩
theorem zl1 {bs:List Int} {p:Int} {y:Cm×Int} (h:BsOk bs) (hy:znm bs p= .ok y):i64 y.2∧zk1 y.1.1 y.1.2.1 y.1.2.2=true:=by
 unfold znm at hy
 cases e1:zaU bs p with
 |error x=>rw[e1]at hy;cases hy
 |ok k=>
 rw[e1]at hy;simp only at hy
 cases e2:zaW bs k.2 with
 |error x=>rw[e2]at hy;cases hy
 |ok n=>
 rw[e2]at hy;simp only at hy
 cases e3:zd7 bs n.2 with
 |error x=>rw[e3]at hy;cases hy
 |ok s=>
 rw[e3]at hy;simp only at hy
 split at hy
 ·rename_i hm
  cases hy
  exact⟨zif h e3,hm⟩
 ·cases hy
theorem zri {bs:List Int} {p e:Int} (hy:znm bs p= .error e):(e !=0)=true:=by
 unfold znm at hy
 cases e1:zaU bs p with
 |error x=>rw[e1]at hy;cases hy;simpa using(zcc e1).2
 |ok k=>
 rw[e1]at hy;simp only at hy
 cases e2:zaW bs k.2 with
 |error x=>rw[e2]at hy;cases hy;simpa using(zcc e2).2
 |ok n=>
 rw[e2]at hy;simp only at hy
 cases e3:zd7 bs n.2 with
 |error x=>rw[e3]at hy;cases hy;simpa using(zcc e3).2
 |ok s=>
 rw[e3]at hy;simp only at hy
 split at hy
 ·cases hy
 ·cases hy;rfl
theorem zoN (bs:List Int) (p:Int) (h:BsOk bs) (hp:i64 p):CallOK prog 90 [.f (asl bs.length (zad bs)), .f (ai p)] (fun r o=>r=[zCg (dOf zBT (ziz bs p)).1,ri (dOf zBT (ziz bs p)).2.1,ri (dOf zBT (ziz bs p)).2.2]∧o=[]):=by
 refine zh func90 results90 ntmps90 call90 ?_
 simp only[f90,Option.getD]
 unfold ziz
 cases e1:zaU bs p with
 |error e=>
  obtain⟨h1,hq⟩:=zxy h hp e1
  simp only[dOf]
  refine zL hq (h1) ?_
  rfl
 |ok k=>
 have h1:=zvl h hp e1
 have p1:=zbp h e1
 simp only
 cases e2:zaW bs k.2 with
 |error e=>
  obtain⟨h2,hq⟩:=zCd h p1 e2
  simp only[dOf]
  refine zL hq (I (h1) (h2)) ?_
  rfl
 |ok n=>
 have h2:=zCc h p1 e2
 have p2:=zaw h e2
 simp only
 have h3:=zvm bs n.2 h p2
 cases e3:znm bs n.2 with
 |error e=>
  rw[e3]at h3
  have hq:(e !=0)=true:=zri e3
  simp only[dOf]at h3⊢
  refine zL hq (I (h1) (I (h2) (h3))) ?_
  rfl
 |ok c=>
 rw[e3]at h3
 obtain⟨p3,hc⟩:=zl1 h e3
 have f:=zdF hc
 have hk:=zfK h e1
 have hn:=zm6 h e2
 have h4:=zgd ⟨k.1,n.1,c.1.1,c.1.2.1,c.1.2.2⟩ (by unfold Req.ok i64;simp only;omega)
 simp only[dOf]at h3⊢
 cases hm:Req.may ⟨k.1,n.1,c.1.1,c.1.2.1,c.1.2.2⟩
 ·rw[hm]at h4
  rw[if_neg (by simp)]
  refine zL trivial (I (h1) (I (h2) (I (h3) (h4)))) ?_
  rfl
 ·rw[hm]at h4
  rw[if_pos rfl]
  refine zL trivial (I (h1) (I (h2) (I (h3) (h4)))) ?_
  rfl
theorem ziy {bs:List Int} (h:BsOk bs) {p:Int} {y:Req×Int} (hy:ziz bs p= .ok y):i64 y.2∧Req.may y.1=true:=by
 unfold ziz at hy
 cases e1:zaU bs p with
 |error x=>rw[e1]at hy;cases hy
 |ok k=>
 rw[e1]at hy;simp only at hy
 cases e2:zaW bs k.2 with
 |error x=>rw[e2]at hy;cases hy
 |ok n=>
 rw[e2]at hy;simp only at hy
 cases e3:znm bs n.2 with
 |error x=>rw[e3]at hy;cases hy
 |ok s=>
 rw[e3]at hy;simp only at hy
 split at hy
 ·rename_i hm
  cases hy
  exact⟨(zl1 h e3).1,hm⟩
 ·cases hy
theorem zm5 {bs:List Int} {p e:Int} (hy:ziz bs p= .error e):(e !=0)=true:=by
 unfold ziz at hy
 cases e1:zaU bs p with
 |error x=>rw[e1]at hy;cases hy;simpa using(zcc e1).2
 |ok k=>
 rw[e1]at hy;simp only at hy
 cases e2:zaW bs k.2 with
 |error x=>rw[e2]at hy;cases hy;simpa using(zcc e2).2
 |ok n=>
 rw[e2]at hy;simp only at hy
 cases e3:znm bs n.2 with
 |error x=>rw[e3]at hy;cases hy;exact zri e3
 |ok s=>
 rw[e3]at hy;simp only at hy
 split at hy
 ·cases hy
 ·cases hy;rfl
def zgH (bs:List Int) (p:Int):Rr Batch:=match zaU bs p with
 | .error e=> .error e
 | .ok k=>if k.1>1 then .error 4 else if k.1=1 then .ok (⟨true,0,⟨0,0⟩,0,[]⟩,k.2)else match zaT (zaW bs) 4 k.2 []with
  | .error e=> .error e
  | .ok l=>match za9 bs l.2 3 with
   | .error e=> .error e
   | .ok n=>match zaT (ziz bs) n.1.toNat n.2 []with
    | .error e=> .error e
    | .ok rs=>if Batch.may ⟨false,l.1.getD 0 0,⟨l.1.getD 1 0,l.1.getD 2 0⟩,l.1.getD 3 0,rs.1⟩=true then .ok (⟨false,l.1.getD 0 0,⟨l.1.getD 1 0,l.1.getD 2 0⟩,l.1.getD 3 0,rs.1⟩,rs.2)else .error 4
abbrev zBS:Batch:=⟨false,0,⟨0,0⟩,0,[]⟩
abbrev zBx (b:Batch):RF:= .agg (b.enc.map RO.d)
theorem reqsE_snoc {l:List Req} {r:Req}:zbW (l++[r])=zbW l++r.enc:=by simp[zbW]
theorem reqs_take {l:List Req}:(zbW l).take (l.length*5)=zbW l:=zc1 Req.enc 5 (fun _=>rfl) l
theorem zBy {l:List Int} (h:l.length=2):∃a b,l=[a,b]:=by
 match l,h with
 |[a,b],_=>exact⟨a,b,rfl⟩
theorem zxx {l:List Int} (h:l.length=3):∃a b c,l=[a,b,c]:=by
 match l,h with
 |[a,b,c],_=>exact⟨a,b,c,rfl⟩
theorem zAa {l:List Int} (h:l.length=4):∃a b c d,l=[a,b,c,d]:=by
 match l,h with
 |[a,b,c,d],_=>exact⟨a,b,c,d,rfl⟩
theorem zh6 {Z:List Nat} {r:Rs} {h h':Hd} {a b c d:Nat} {xs ys:List AV}:fgc Z r (.agg [.ptr h a, .ptr h b, .ptr h c, .ptr h d]::xs) (.agg [.ptr h' a, .ptr h' b, .ptr h' c, .ptr h' d]::ys)=((zwe Z r h=true∧(⟨h.s,h.j,epZ Z h.s h.e⟩:Hd)=h')∧fgc Z r xs ys):=by
 simp only[fgc,znq,zkS,znt,zqd,zjE,zns,reduceCtorEq,false_or,AV.agg.injEq,List.cons.injEq,C.ptr.injEq,and_true,Bool.and_eq_true]
 apply propext
 constructor
 ·rintro⟨⟨h1,h2⟩,h3⟩;exact⟨⟨h1.1,h2.1⟩,h3⟩
 ·rintro⟨⟨h1,h2⟩,h3⟩;exact⟨⟨⟨h1,h1,h1,h1⟩,h2,h2,h2,h2⟩,h3⟩
set_option maxHeartbeats 4000000 in
theorem zoM (bs:List Int) (p:Int) (h:BsOk bs) (hp:i64 p):CallOK prog 142 [.f (asl bs.length (zad bs)), .f (ai p)] (fun r o=>r=[zBx (dOf zBS (zgH bs p)).1,ri (dOf zBS (zgH bs p)).2.1,ri (dOf zBS (zgH bs p)).2.2]∧o=[]):=by
 refine CallOK.nil ?_
 refine zh func142 results142 ntmps142 call142 ?_
 simp only[f142,Option.getD]
 unfold zgH
 cases e1:zaU bs p with
 |error e=>
  obtain⟨h1,hq⟩:=zxy h hp e1
  simp only[dOf]
  repeat'(first|exact zC|refine zq hq ?_|refine zx (h1) ?_|(apply zaa<;>intro hb)|(apply I;exact zI)|(apply I<;>intro hg))
  simp[zaN,zcC,zaQ,zaA]
 |ok k=>
 have h1:=zvl h hp e1
 have p1:=zbp h e1
 simp only
 cases g1:decide (k.1>1)
 ·rw[if_neg (by simpa using g1)]
  cases g2:(k.1==1)
  ·rw[if_neg (by simpa using g2)]
   refine zL (I g1 g2) (h1) ?_
   refine zaf (τ:=Nat×Int×List Int) (fun a=>⟨(asl bs.length (zad bs)::ai a.2.1::dq2 (ptq 4::dq4 (ptq 9::zx7 (.agg [.ptr ⟨9,0,1⟩ 1, .ptr ⟨9,0,1⟩ 2, .ptr ⟨9,0,1⟩ 3, .ptr ⟨9,0,1⟩ 4]::ai a.1::zvT (zec []))))),[(4,⟨2,[obq 1 [db false,di 0,di 0,di 0,di 0, .d (.v zfC)],none,none,none,none,none,none]⟩),(9,⟨2,[obq 1 [db false,di (a.2.2.getD 0 0),di (a.2.2.getD 1 0),di (a.2.2.getD 2 0),di (a.2.2.getD 3 0), .d (.v zfC)],none,none,none,none,none,none]⟩)]⟩)
    (fun a=>a.1≤4∧i64 a.2.1∧a.2.2.length=a.1) (fun a=>zaT (zaW bs) (4 - a.1) a.2.1 a.2.2) (fun a=>4 - a.1) (0,k.2,[])
    (Gh.canon [4,9] [] [] (zk @zh6) rfl rfl) ⟨Nat.zero_le _,p1,rfl⟩ ?_
   intro⟨i,q,l⟩ ⟨hi0,hq,hl⟩ hF K hK
   simp only[Nat.sub_zero]at hi0 hq hl hF hK⊢
   refine zw ?_
   refine zaa (fun hlt=> ?_) (fun hge=> ?_)
   ·have hi:i<4:=by simp at hlt;omega
    have hw:IntKind.i64.wrap ((i:Int)+1)=((i+1:Nat):Int):=zai hi (by omega)
    have hst:4 - i=(4 - (i+1))+1:=by omega
    rw[hst,zaT]at hF
    rw[←hF]
    cases x1:zaW bs q with
    |error e=>
     obtain⟨h2,hz⟩:=zCd h hq x1
     simp only[dOf]
     rcases(show i=0∨i=1∨i=2∨i=3 by omega)with rfl|rfl|rfl|rfl
     all_goals
      repeat'(first|exact zC|refine zq hz ?_|refine zx (h2) ?_|(apply zaa<;>intro hb)|(apply I;exact zI)|(apply I<;>intro hg))
      simp[zaN,zcC,zaQ,zaA]
    |ok x=>
    have h2:=zCc h hq x1
    have hs2:zaT (zaW bs) (4 - (i+1)) x.2 (l++[x.1])=zaT (zaW bs) (4 - i) q l:=by rw[hst,zaT,x1]
    have p2:=zaw h x1
    rcases(show i=0∨i=1∨i=2∨i=3 by omega)with rfl|rfl|rfl|rfl
    ·have hl0:l=[]:=List.length_eq_zero_iff.1 hl
     subst hl0
     refine zL trivial (h2) ?_
     exact hK _ (0+1,x.2,[x.1]) (Gh.canon [4,9] [] [] (zk (I hw @zh6)) rfl rfl) ⟨by simp only;omega,p2,rfl⟩ hs2 (by simp only;omega)
    ·obtain⟨a,rfl⟩:=List.length_eq_one_iff.1 hl
     refine zL trivial (h2) ?_
     exact hK _ (1+1,x.2,[a,x.1]) (Gh.canon [4,9] [] [] (zk (I hw @zh6)) rfl rfl) ⟨by simp only;omega,p2,rfl⟩ hs2 (by simp only;omega)
    ·obtain⟨a,b,rfl⟩:=zBy hl
     refine zL trivial (h2) ?_
     exact hK _ (2+1,x.2,[a,b,x.1]) (Gh.canon [4,9] [] [] (zk (I hw @zh6)) rfl rfl) ⟨by simp only;omega,p2,rfl⟩ hs2 (by simp only;omega)
    ·obtain⟨a,b,c,rfl⟩:=zxx hl
     refine zL trivial (h2) ?_
     exact hK _ (3+1,x.2,[a,b,c,x.1]) (Gh.canon [4,9] [] [] (zk (I hw @zh6)) rfl rfl) ⟨by simp only;omega,p2,rfl⟩ hs2 (by simp only;omega)
   ·have hi:i=4:=by
     have:¬(i:Int)<4:=by simpa using hge
     omega
    subst hi
    rw[Nat.sub_self,zaT]at hF
    have hval:=(zel (ok:=fun v=>0≤v∧v<4611686018427387904) (fun q z hz=>⟨zaw h hz,zm6 h hz⟩) p1 (fun _ hx=>by cases hx) hF.symm).2.2
    rw[←hF]
    obtain⟨v0,v1,v2,v3,rfl⟩:=zAa hl
    have q0:=hval v0 (by simp)
    have q1:=hval v1 (by simp)
    have q2:=hval v2 (by simp)
    have q3:=hval v3 (by simp)
    clear hval hF hK
    simp only[List.getD_cons_zero,List.getD_cons_succ]
    cases e3:za9 bs q 3 with
    |error e=>
     rcases zgl e3 with hz|⟨z,hz,hgt,rfl⟩
     ·obtain⟨h3,hw⟩:=zxy h hq hz
      simp only[dOf]
      repeat'(first|exact zC|refine zq hw ?_|refine zx (h3) ?_|(apply zaa<;>intro hb)|(apply I;exact zI)|(apply I<;>intro hg))
      simp[zaN,zcC,zaQ,zaA]
     ·have h3:=zvl h hq hz
      have hgt:decide (z.1>3)=true:=by simpa using hgt
      simp only[dOf]
      repeat'(first|exact zC|refine zq hgt ?_|refine zx (h3) ?_|(apply zaa<;>intro hb)|(apply I;exact zI)|(apply I<;>intro hg))
      simp[zaN,zcC,zaQ,zaA]
    |ok n=>
    obtain⟨hz,hle⟩:=zjD e3
    obtain⟨p3,n0,n3⟩:=zc7 h e3
    have h3:=zvl h hq hz
    have hgt:decide (n.1>3)=false:=by simp;omega
    simp only
    refine zL hgt (h3) ?_
    refine zaf (τ:=Nat×Int×List Req) (fun a=>⟨(asl bs.length (zad bs)::ai a.2.1::dq2 (ptq 4::dq4 (ptq 9::zAs (zec (ai n.1::ai a.1::zx6 []))))),[(4,⟨2,[obq 1 [db false,di 0,di 0,di 0,di 0, .d (.v zfC)],none,none,none,none,none,none]⟩),(9,⟨2,[obq 1 [db false,di v0,di v1,di v2,di v3, .own ⟨9,6,1⟩ 0 a.2.2.length],none,none,none,none,none,roq 1 5 (zbW a.2.2)]⟩),(13,⟨2,[]⟩),(92,⟨2,[]⟩),(93,⟨2,[]⟩)]⟩)
     (fun a=>a.1≤n.1.toNat∧i64 a.2.1∧a.2.2.length=a.1∧∀r∈a.2.2,Req.may r=true) (fun a=>zaT (ziz bs) (n.1.toNat - a.1) a.2.1 a.2.2) (fun a=>n.1.toNat - a.1) (0,n.2,[])
     ((Gh.nilF 9 5 5 rfl).trans (Gh.canon [4,9] [13,92,93] [] zK rfl rfl)) ⟨Nat.zero_le _,p3,rfl,fun _ hx=>by cases hx⟩ ?_
    intro⟨i,q2,acc⟩ ⟨hi0,hq2,ha,hmy⟩ hF K hK
    simp only[Nat.sub_zero]at hi0 hq2 ha hmy hF hK⊢
    refine zw ?_
    refine zaa (fun hlt=> ?_) (fun hge=> ?_)
    ·have hi:i<n.1.toNat:=by simp at hlt;omega
     have hw:=zai hi (by omega)
     have hst:n.1.toNat - i=(n.1.toNat - (i+1))+1:=by omega
     have h4:=zoN bs q2 h hq2
     cases x1:ziz bs q2 with
     |error e=>
      rw[←hF,hst,zaT,x1]
      rw[x1]at h4
      simp only[dOf]at h4⊢
      have hz:=zm5 x1
      repeat'(first|exact zC|refine zq hz ?_|refine zx (h4) ?_|(apply zaa<;>intro hb)|(apply I;exact zI)|(apply I<;>intro hg))
      simp[zaN,zcC,zaQ,zaA]
     |ok x=>
     rw[x1]at h4
     simp only[dOf]at h4
     have hs2:zaT (ziz bs) (n.1.toNat - (i+1)) x.2 (acc++[x.1])=zaT (ziz bs) (n.1.toNat - i) q2 acc:=by rw[hst,zaT,x1]
     have hcl:(acc.length+1≤2^47)=True:=eq_true (by omega)
     obtain⟨px,mx⟩:=ziy h x1
     refine zL (I @reqs_take (I @zaP hcl)) (h4) ?_
     refine hK _ (i+1,x.2,acc++[x.1]) (Gh.canon [4,9] [] [] (zk (I hw (I @List.length_append.{0} @List.length_singleton.{0}))) rfl (by simp only[List.length_append,List.length_singleton];rw[reqsE_snoc];rfl)) ⟨hi,px,by simp only[List.length_append,List.length_singleton];omega,fun r hr=> ?_⟩ hs2 (by simp only;omega)
     rcases List.mem_append.1 hr with hr|hr
     ·exact hmy r hr
     ·simp at hr;subst hr;exact mx
    ·have hi:i=n.1.toNat:=by simp at hge;omega
     rw[hi,Nat.sub_self,zaT]at hF
     rw[←hF]
     simp only
     have hm:=zdH ⟨false,v0,⟨v1,v2⟩,v3,acc⟩ ⟨by unfold i64;simp only;omega,by unfold i64;simp only;omega,by unfold i64;simp only;omega,by unfold i64;simp only;omega,by simp only;omega,fun r hr=>(zeD (hmy r hr)).2.2.2⟩
     clear hK hF
     cases hb:Batch.may ⟨false,v0,⟨v1,v2⟩,v3,acc⟩
     ·rw[hb]at hm
      rw[if_neg (by simp)]
      simp only[dOf]
      repeat'(first|exact zC|refine zq @reqs_take ?_|refine zx (hm) ?_|(apply zaa<;>intro hb)|(apply I;exact zI)|(apply I<;>intro hg))
      simp[zaN,zcC,zaQ,zaA]
     ·rw[hb]at hm
      rw[if_pos rfl]
      simp only[dOf]
      repeat'(first|exact zC|refine zq @reqs_take ?_|refine zx (hm) ?_|(apply zaa<;>intro hb)|(apply I;exact zI)|(apply I<;>intro hg))
      simp[zaN,zcC,zaQ,zaA, -List.length_flatMap,zaP]
  ·rw[if_pos (by simpa using g2)]
   simp only[dOf]
   repeat'(first|exact zC|refine zq (I g1 g2) ?_|refine zx (h1) ?_|(apply zaa<;>intro hb)|(apply I;exact zI)|(apply I<;>intro hg))
   simp[zaN,zcC,zaQ,zaA]
 ·rw[if_pos (by simpa using g1)]
  simp only[dOf]
  repeat'(first|exact zC|refine zq g1 ?_|refine zx (h1) ?_|(apply zaa<;>intro hb)|(apply I;exact zI)|(apply I<;>intro hg))
  simp[zaN,zcC,zaQ,zaA]
abbrev zAA:Value:=zfE 84 4
theorem zc4:CallOK prog 96 [.f (ai 0)] (fun r o=>r=[]∧o=[]):=by
 refine zh func96 results96 ntmps96 call96 ?_
 simp only[f96,Option.getD]
 exact zW0 trivial
theorem zfh (e:Int) (h:(e !=0)=true):zbZ prog 96 [.f (ai e)] zAA:=by
 refine zhy func96 ntmps96 call96 ?_
 simp only[f96,Option.getD]
 exact zW0 (I h @zab)
theorem zh4 {α:Type} {f:Int→Rr α} (hf:∀p e,f p= .error e→(e !=0)=true):∀{n:Nat} {p:Int} {acc:List α} {e:Int},zaT f n p acc= .error e→(e !=0)=true
 |0,p,acc,e,h=>by cases h
 |n+1,p,acc,e,h=>by
  rw[zaT]at h
  cases hx:f p with
  |error x=>rw[hx]at h;cases h;exact hf _ _ hx
  |ok x=>rw[hx]at h;exact zh4 hf h
theorem zxw {bs:List Int} {p e:Int} (hy:zgH bs p= .error e):(e !=0)=true:=by
 unfold zgH at hy
 cases e1:zaU bs p with
 |error x=>rw[e1]at hy;cases hy;simpa using(zcc e1).2
 |ok k=>
 rw[e1]at hy;simp only at hy
 split at hy
 ·cases hy;rfl
 split at hy
 ·cases hy
 cases e2:zaT (zaW bs) 4 k.2 []with
 |error x=>rw[e2]at hy;cases hy;exact zh4 (fun q z hz=>by simpa using(zcc hz).2) e2
 |ok l=>
 rw[e2]at hy;simp only at hy
 cases e3:za9 bs l.2 3 with
 |error x=>
  rw[e3]at hy;cases hy
  rcases zgl e3 with hz|⟨_,_,_,rfl⟩
  ·simpa using(zcc hz).2
  ·rfl
 |ok n=>
 rw[e3]at hy;simp only at hy
 cases e4:zaT (ziz bs) n.1.toNat n.2 []with
 |error x=>rw[e4]at hy;cases hy;exact zh4 (fun q z hz=>zm5 hz) e4
 |ok rs=>
 rw[e4]at hy;simp only at hy
 split at hy
 ·cases hy
 ·cases hy;rfl
theorem zm3 (bs:List Int) (p:Int) (h:BsOk bs) (hp:i64 p) {y:Int×Int} (hy:zaU bs p= .ok y):
  CallOK prog 89 [.obj (rds bs p)] (fun r o=>r=[ri y.1]∧o=[rds bs y.2]):=by
 obtain⟨h0,rfl⟩:=zcb hy
 refine zh func89 results89 ntmps89 call89 ?_
 simp only[f89,Option.getD]
 have h1:=zdL bs p h hp
 rw[h0]at h1
 exact zW trivial (I (h1) (zc4))
theorem zkx (bs:List Int) (p:Int) (h:BsOk bs) (hp:i64 p) {e:Int} (hy:zaU bs p= .error e):
  zbZ prog 89 [.obj (rds bs p)] zAA:=by
 obtain⟨h0,h2⟩:=zcc hy
 have h2:(e !=0)=true:=by simpa using h2
 refine zhy func89 ntmps89 call89 ?_
 simp only[f89,Option.getD]
 have h1:=zdL bs p h hp
 rw[h0]at h1
 refine zL trivial (h1) ?_
 refine zdJ (zfh e h2) rfl ?_
 first|refine zs @zab ?_|exact zt @zab
theorem zcv (bs:List Int) (p:Int) (h:BsOk bs) (hp:i64 p) {y:Int×Int} (hy:zaW bs p= .ok y):
  CallOK prog 92 [.obj (rds bs p)] (fun r o=>r=[ri y.1]∧o=[rds bs y.2]):=by
 obtain⟨h0,rfl⟩:=zcb hy
 refine zh func92 results92 ntmps92 call92 ?_
 simp only[f92,Option.getD]
 have h1:=zfr bs p h hp
 rw[h0]at h1
 exact zW trivial (I (h1) (zc4))
theorem zbT (bs:List Int) (p:Int) (h:BsOk bs) (hp:i64 p) {e:Int} (hy:zaW bs p= .error e):
  zbZ prog 92 [.obj (rds bs p)] zAA:=by
 obtain⟨h0,h2⟩:=zcc hy
 have h2:(e !=0)=true:=by simpa using h2
 refine zhy func92 ntmps92 call92 ?_
 simp only[f92,Option.getD]
 have h1:=zfr bs p h hp
 rw[h0]at h1
 refine zL trivial (h1) ?_
 refine zdJ (zfh e h2) rfl ?_
 first|refine zs @zab ?_|exact zt @zab
theorem zm4 (bs:List Int) (p:Int) (h:BsOk bs) (hp:i64 p) {y:Batch×Int} (hy:zgH bs p= .ok y):
  CallOK prog 94 [.obj (rds bs p)] (fun r o=>r=[zBx y.1]∧o=[rds bs y.2]):=by
 refine zh func94 results94 ntmps94 call94 ?_
 simp only[f94,Option.getD]
 have h1:=zoM bs p h hp
 rw[hy]at h1
 simp only[dOf]at h1
 refine zL trivial (I (h1) (zc4)) ?_
 rfl
theorem zky (bs:List Int) (p:Int) (h:BsOk bs) (hp:i64 p) {e:Int} (hy:zgH bs p= .error e):
  zbZ prog 94 [.obj (rds bs p)] zAA:=by
 have h2:=zxw hy
 refine zhy func94 ntmps94 call94 ?_
 simp only[f94,Option.getD]
 have h1:=zoM bs p h hp
 rw[hy]at h1
 simp only[dOf]at h1
 refine zL trivial (h1) ?_
 refine zdJ (zfh e h2) rfl ?_
 first|refine zs @zab ?_|exact zt @zab
def zgL (bs:List Int) (p:Int):Rr Vote:=match zaW bs p with
 | .error e=> .error e
 | .ok s=>match zaW bs s.2 with
  | .error e=> .error e
  | .ok b=>match zgH bs b.2 with
   | .error e=> .error e
   | .ok x=> .ok (⟨s.1,b.1,x.1⟩,x.2)
def zgM (bs:List Int) (p:Int):Rr Prom:=match zaU bs p with
 | .error e=> .error e
 | .ok f=>match zaW bs f.2 with
  | .error e=> .error e
  | .ok d=>match zaW bs d.2 with
   | .error e=> .error e
   | .ok v=>match zaW bs v.2 with
    | .error e=> .error e
    | .ok s=>match zaW bs s.2 with
     | .error e=> .error e
     | .ok t=>match zaU bs t.2 with
      | .error e=> .error e
      | .ok n=>match zaT (zgL bs) n.1.toNat n.2 []with
       | .error e=> .error e
       | .ok l=> .ok (⟨f.1,d.1,⟨v.1,s.1⟩,t.1,l.1⟩,l.2)
theorem votesE_snoc (b:List Vote) (v:Vote):zbv (b++[v])=zbv b++v.enc:=by simp[zbv]
theorem votes_take {l:List Vote}:(zbv l).take (l.length*8)=zbv l:=zc1 Vote.enc 8 (fun _=>rfl) l
theorem zh5 {bs:List Int} (h:BsOk bs) {p:Int} {y:Batch×Int} (hy:zgH bs p= .ok y):i64 y.2:=by
 unfold zgH at hy
 cases e1:zaU bs p with
 |error x=>rw[e1]at hy;cases hy
 |ok k=>
 have p1:=zbp h e1
 rw[e1]at hy;simp only at hy
 split at hy
 ·cases hy
 split at hy
 ·cases hy;exact p1
 cases e2:zaT (zaW bs) 4 k.2 []with
 |error x=>rw[e2]at hy;cases hy
 |ok l=>
 have p2:=(zel (ok:=fun _=>True) (fun q z hz=>⟨zaw h hz,trivial⟩) p1 (fun _ _=>trivial) e2).1
 rw[e2]at hy;simp only at hy
 cases e3:za9 bs l.2 3 with
 |error x=>rw[e3]at hy;cases hy
 |ok n=>
 have p3:=(zc7 h e3).1
 rw[e3]at hy;simp only at hy
 cases e4:zaT (ziz bs) n.1.toNat n.2 []with
 |error x=>rw[e4]at hy;cases hy
 |ok rs=>
 have p4:=(zel (ok:=fun _=>True) (fun q z hz=>⟨(ziy h hz).1,trivial⟩) p3 (fun _ _=>trivial) e4).1
 rw[e4]at hy;simp only at hy
 split at hy
 ·cases hy;exact p4
 ·cases hy
set_option maxHeartbeats 4000000 in
theorem zkz (bs:List Int) (p:Int) (h:BsOk bs) (hp:i64 p) (b:Bool) (y:Prom×Int) (e:Int) (hy:znk b y e (zgM bs p)):
  (b=true→CallOK prog 93 [.obj (rds bs p)] (fun r o=>zaN r [.agg (y.1.enc.map RO.d)]∧o=[rds bs y.2]))∧(b=false→zbZ prog 93 [.obj (rds bs p)] zAA):=by
 refine zhb func93 results93 ntmps93 call93 ?_
 simp only[f93,Option.getD]
 unfold zgM at hy
 cases e1:zaU bs p with
 |error x=>
  rw[e1]at hy
  obtain⟨rfl,rfl⟩:=zaB hy
  have hr:=zkx bs _ h hp e1
  refine zL0 trivial ?_
  refine zp (rds bs p) (hr) ?_
  first|refine zs (I @zan @zab) ?_|exact zt (I @zan @zab)
 |ok f=>
 have he1:=zm3 bs _ h hp e1
 have p1:=zbp h e1
 rw[e1]at hy
 simp only at hy
 refine zL0 trivial ?_
 refine zj (he1) ?_
 cases e2:zaW bs f.2 with
 |error x=>
  rw[e2]at hy
  obtain⟨rfl,rfl⟩:=zaB hy
  have hr:=zbT bs _ h p1 e2
  refine zL0 trivial ?_
  refine zp (rds bs p) (hr) ?_
  first|refine zs (I @zan @zab) ?_|exact zt (I @zan @zab)
 |ok d=>
 have he2:=zcv bs _ h p1 e2
 have p2:=zaw h e2
 rw[e2]at hy
 simp only at hy
 refine zL0 trivial ?_
 refine zj (he2) ?_
 cases e3:zaW bs d.2 with
 |error x=>
  rw[e3]at hy
  obtain⟨rfl,rfl⟩:=zaB hy
  have hr:=zbT bs _ h p2 e3
  refine zL0 trivial ?_
  refine zp (rds bs p) (hr) ?_
  first|refine zs (I @zan @zab) ?_|exact zt (I @zan @zab)
 |ok v=>
 have he3:=zcv bs _ h p2 e3
 have p3:=zaw h e3
 rw[e3]at hy
 simp only at hy
 refine zL0 trivial ?_
 refine zj (he3) ?_
 cases e4:zaW bs v.2 with
 |error x=>
  rw[e4]at hy
  obtain⟨rfl,rfl⟩:=zaB hy
  have hr:=zbT bs _ h p3 e4
  refine zL0 trivial ?_
  refine zp (rds bs p) (hr) ?_
  first|refine zs (I @zan @zab) ?_|exact zt (I @zan @zab)
 |ok s=>
 have he4:=zcv bs _ h p3 e4
 have p4:=zaw h e4
 rw[e4]at hy
 simp only at hy
 refine zL0 trivial ?_
 refine zj (he4) ?_
 cases e5:zaW bs s.2 with
 |error x=>
  rw[e5]at hy
  obtain⟨rfl,rfl⟩:=zaB hy
  have hr:=zbT bs _ h p4 e5
  refine zL0 trivial ?_
  refine zp (rds bs p) (hr) ?_
  first|refine zs (I @zan @zab) ?_|exact zt (I @zan @zab)
 |ok t=>
 have he5:=zcv bs _ h p4 e5
 have p5:=zaw h e5
 rw[e5]at hy
 simp only at hy
 refine zL0 trivial ?_
 refine zj (he5) ?_
 cases e6:zaU bs t.2 with
 |error x=>
  rw[e6]at hy
  obtain⟨rfl,rfl⟩:=zaB hy
  have hr:=zkx bs _ h p5 e6
  refine zL0 trivial ?_
  refine zp (rds bs p) (hr) ?_
  first|refine zs (I @zan @zab) ?_|exact zt (I @zan @zab)
 |ok n=>
 have he6:=zm3 bs _ h p5 e6
 have p6:=zbp h e6
 rw[e6]at hy
 simp only at hy
 refine zL0 trivial ?_
 refine zj (he6) ?_
 have hnv:=zfK h e6
 refine zL0 trivial ?_
 refine zaf (τ:=Nat×Int×List Vote×Nat) (fun a=>⟨(.one (.ptr ⟨0,0,0⟩ 0)::dd::ptq 2::ptq 3::zAr (ai n.1::ai a.1::zvT [])),[zAL bs a.2.1 a.2.2.2,(2,⟨2,[obq 1 [di 0,di 0,di 0,di 0,di 0, .d (.v zfC)],none,none,none,none,none,none]⟩),(3,⟨2,[obq 1 [di f.1,di d.1,di v.1,di s.1,di t.1, .own ⟨3,6,1⟩ 0 a.2.2.1.length],none,none,none,none,none,roq 1 8 (zbv a.2.2.1)]⟩),(4,⟨2,[]⟩),(38,⟨2,[]⟩),(39,⟨2,[]⟩)]⟩)
  (fun a=>a.1≤n.1.toNat∧i64 a.2.1∧a.2.2.1.length=a.1) (fun a=>zaT (zgL bs) (n.1.toNat - a.1) a.2.1 a.2.2.1) (fun a=>n.1.toNat - a.1) (0,n.2,[],7)
  ((Gh.nilF 3 5 8 rfl).trans (Gh.canon [0,2,3] [4,38,39] [0] zK rfl rfl)) ⟨Nat.zero_le _,p6,rfl⟩ ?_
 intro⟨i,q,acc,nx⟩ ⟨hi0,hq,ha⟩ hF K hK
 simp only[Nat.sub_zero]at hi0 hq ha hF hK⊢
 rw[←hF]at hy
 refine zw ?_
 refine zaa (fun hlt=> ?_) (fun hge=> ?_)
 ·have hi:i<n.1.toNat:=by simp at hlt;omega
  have hw:=zai hi (by omega)
  have hst:n.1.toNat - i=(n.1.toNat - (i+1))+1:=by omega
  rw[hst,zaT,zgL]at hy
  cases x1:zaW bs q with
  |error x=>
   rw[x1]at hy
   obtain⟨rfl,rfl⟩:=zaB hy
   have hr:=zbT bs q h hq x1
   refine zL0 trivial ?_
   refine zp (rds bs p) (hr) ?_
   first|refine zs (I @zan @zab) ?_|exact zt (I @zan @zab)
  |ok c=>
  rw[x1]at hy
  simp only at hy
  have hr1:=zcv bs q h hq x1
  refine zL0 trivial ?_
  refine zj (hr1) ?_
  cases x2:zaW bs c.2 with
  |error x=>
   rw[x2]at hy
   obtain⟨rfl,rfl⟩:=zaB hy
   have hr:=zbT bs _ h (zaw h x1) x2
   refine zL0 trivial ?_
   refine zp (rds bs p) (hr) ?_
   first|refine zs (I @zan @zab) ?_|exact zt (I @zan @zab)
  |ok m=>
  rw[x2]at hy
  simp only at hy
  have hr2:=zcv bs _ h (zaw h x1) x2
  refine zL0 trivial ?_
  refine zj (hr2) ?_
  cases x3:zgH bs m.2 with
  |error x=>
   rw[x3]at hy
   obtain⟨rfl,rfl⟩:=zaB hy
   have hr:=zky bs _ h (zaw h x2) x3
   refine zL0 trivial ?_
   refine zp (rds bs p) (hr) ?_
   first|refine zs (I @zan @zab) ?_|exact zt (I @zan @zab)
  |ok r=>
  rw[x3]at hy
  simp only at hy
  have hr3:=zm4 bs _ h (zaw h x2) x3
  refine zL0 trivial ?_
  refine zj (hr3) ?_
  have hcl:(acc.length+1≤2^47)=True:=eq_true (by omega)
  have hF2:zaT (zgL bs) (n.1.toNat - (i+1)) r.2 (acc++[⟨c.1,m.1,r.1⟩])=zaT (zgL bs) (n.1.toNat - i) q acc:=by rw[hst,zaT,zgL,x1];simp only;rw[x2];simp only;rw[x3]
  refine zL0 (I @votes_take (I @zaO hcl)) ?_
  refine hK _ (i+1,r.2,acc++[⟨c.1,m.1,r.1⟩],nx+3) (Gh.canon [0,2,3] [] [0] (zk (I hw (I @List.length_append.{0} @List.length_singleton.{0}))) rfl (by simp only[List.length_append,List.length_singleton];rw[votesE_snoc];rfl)) ⟨hi,zh5 h x3,by simp only[List.length_append,List.length_singleton];omega⟩ hF2 (by simp only;omega)
 ·have hi:i=n.1.toNat:=by simp at hge;omega
  rw[hi,Nat.sub_self,zaT]at hy
  obtain⟨rfl,rfl⟩:=zdX hy
  clear hK hF
  repeat'(first|exact zC|refine zq (I @zdW @votes_take) ?_|(apply zaa<;>intro hb)|(apply I;exact zI)|(apply I<;>intro hg))
  simp[zaN,zcC,zaQ,zaA, -List.length_flatMap,zaO]
end Go.Proofs.YtliimajkpggbhaaGreat
