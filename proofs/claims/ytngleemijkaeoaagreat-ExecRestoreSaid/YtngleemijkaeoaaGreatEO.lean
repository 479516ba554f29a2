import Derived.Test.YtngleemijkaeoaaGreatK9
import Derived.Test.YtngleemijkaeoaaGreatTYS
namespace Go.Proofs.YtngleemijkaeoaaGreat
open Go.Pk
set_option maxRecDepth 100000
set_option linter.unusedSimpArgs false
set_option linter.unusedVariables false
abbrev zg7:Sh:= .struct [.int .u8, .int .u8, .int .u8, .slice 6 zoA]
theorem row_of (ds:List D) (h:ShD zg7 ds):∃r:Row,ds=r.enc∧rowOk r:=by
 rw[ShD]at h
 simp only[ShDs]at h
 obtain⟨_,_,rfl,h1,_,_,rfl,h2,_,_,rfl,h3,_,_,rfl,h4,rfl⟩:=h
 obtain⟨a,rfl,ha⟩:=byte_of _ h1
 obtain⟨b,rfl,hb⟩:=byte_of _ h2
 obtain⟨c,rfl,hc⟩:=byte_of _ h3
 obtain⟨l,rfl,hl,hl2⟩:=zqI _ h4
 exact⟨⟨a,b,c,l⟩,rfl,ha,hb,hc,hl,hl2⟩
theorem zoK (ds:List D) (h:ShD (.slice 32 zg7) ds):∃l:List Row,ds=[.sl l.length (zkb l)]∧l.length<2^60∧∀x∈l,rowOk x:=by
 rw[ShD]at h
 obtain⟨xs,rfl,hx1,hx2⟩:=h
 obtain⟨l,l1,l2,l3⟩:=zmz row_of xs hx2
 have:=zqH
 exact⟨l,by rw[←l1,l2],by omega,l3⟩
abbrev zvo:Sh:= .struct [.int .i64, .int .i64, .struct [.int .i64, .int .i64, .str]]
abbrev zvp:Sh:= .struct [.bool, .int .i64, .struct [.int .i64, .int .i64], .int .i64, .slice 48 zvo]
def zbH (s:Sn):Bool:=within s.done&&(within s.view&&(within s.slot&&zcp s.st))
theorem zdw (n:Int):within n=(!(decide (n<0))&& !(decide (n>2305843009213693952))):=by
 unfold within
 have hH:zaL=2305843009213693952:=rfl
 rw[hH]
 by_cases h1:n<0<;>by_cases h2:n>2305843009213693952<;>simp[h1,h2]<;>omega
set_option maxHeartbeats 1000000 in
theorem zi6 (s:Sn) (h:Small s.st):CallOK Tryz.prog 95 [.f (.agg s.lent)] (fun r o=>r=[rb (zbH s)]∧o=[]):=by
 refine zac zar mixed (T:=Ty) (n:=27) Tryz.func95 (c:=Tryz.f95.body.getD .skip) rfl Tryz.results95 Tryz.ntmps95 Tryz.call95 ?_
 simp only[Tryz.f95,Option.getD]
 have hri:=zq8 s.st h
 have hagg:∀(Z:List Nat) (r:Rs) (xs ys:List AV),fgc Z r (AV.agg [di s.done,di s.view,di s.slot]::xs) (AV.agg [di s.done,di s.view,di s.slot]::ys)=fgc Z r xs ys:=fun Z r xs ys=>zgV rfl rfl
 repeat'(first|refine zq0 ?_|exact zd0|(refine zaa ?_ ?_<;>intro hb)|(refine And.intro ?_ ?_;exact zI)|(refine And.intro ?_ ?_<;>intro hg)|exact zC|fail)
 refine zao (τ:=Nat) (fun i=>⟨[dd, .one (.ptr ⟨1,0,1⟩ 0),dd,dd,dd,dd,dd,dd,dd,dd,dd,dd,dd, .agg [di s.done,di s.view,di s.slot],ai i,dd,dd,dd,dd,dd,dd,dd,dd,dd,dd,dd,dd],[(1,{next:=2,l:=[some {e:=1,var:=true,fz:=false,sz:=0,cells:=[di s.done,di s.view,di s.slot,di s.st.time,di s.st.num,di s.st.token, .lent s.st.sess.length (zaE s.st.sess), .lent s.st.locks.length (zaf s.st.locks), .lent s.st.memos.length (zav s.st.memos)]},none,none,none,none,none,none,none,none,none]})]⟩)
  (fun i=>i≤3) (fun i=>if i=0 then zbH s else if i=1 then within s.view&&(within s.slot&&zcp s.st)else if i=2 then within s.slot&&zcp s.st else zcp s.st) (fun i=>3 - i) 0
  (Gh.canon [1] [] [] (zk hagg) rfl rfl) (Nat.zero_le _) ?_
 intro i hi0 hF K hK
 rw[if_pos rfl]at hF
 refine zw ?_
 refine zaa (fun hlt=> ?_) (fun hge=> ?_)
 ·have hi:i<3:=by simp at hlt;omega
  have hw:IntKind.i64.wrap ((i:Int)+1)=((i+1:Nat):Int):=zan hi (by omega)
  rcases(show i=0∨i=1∨i=2 by omega)with rfl|rfl|rfl
  ·have hb:=zdw s.done
   cases h1:decide (s.done<0)
   ·cases h2:decide (s.done>2305843009213693952)
    ·rw[h1,h2]at hb
     repeat'(first|refine zq (I h1 h2) ?_|exact zd (I h1 h2)|(refine zaa ?_ ?_<;>intro hb)|(refine And.intro ?_ ?_;exact zI)|(refine And.intro ?_ ?_<;>intro hg)|exact zC|fail)
     exact hK _ 1 (Gh.canon [1] [] [] (zk (I hw hagg)) rfl rfl) (by omega) (by simp[zbH,hb]) (by omega)
    ·rw[h1,h2]at hb
     have hz:zbH s=false:=by simp[zbH,hb]
     repeat'(first|refine zq (I h1 (I h2 hz)) ?_|exact zd (I h1 (I h2 hz))|(refine zaa ?_ ?_<;>intro hb)|(refine And.intro ?_ ?_;exact zI)|(refine And.intro ?_ ?_<;>intro hg)|exact zC|fail)
   ·rw[h1]at hb
    have hz:zbH s=false:=by simp[zbH,hb]
    repeat'(first|refine zq (I h1 hz) ?_|exact zd (I h1 hz)|(refine zaa ?_ ?_<;>intro hb)|(refine And.intro ?_ ?_;exact zI)|(refine And.intro ?_ ?_<;>intro hg)|exact zC|fail)
  ·have hb:=zdw s.view
   simp only[Nat.reduceEqDiff,if_true,if_false]at hF
   rw[←hF]
   cases h1:decide (s.view<0)
   ·cases h2:decide (s.view>2305843009213693952)
    ·rw[h1,h2]at hb
     repeat'(first|refine zq (I h1 h2) ?_|exact zd (I h1 h2)|(refine zaa ?_ ?_<;>intro hb)|(refine And.intro ?_ ?_;exact zI)|(refine And.intro ?_ ?_<;>intro hg)|exact zC|fail)
     exact hK _ 2 (Gh.canon [1] [] [] (zk (I hw hagg)) rfl rfl) (by omega) (by simp[hb]) (by omega)
    ·rw[h1,h2]at hb
     have hz:(within s.view&&(within s.slot&&zcp s.st))=false:=by simp[hb]
     repeat'(first|refine zq (I h1 (I h2 hz)) ?_|exact zd (I h1 (I h2 hz))|(refine zaa ?_ ?_<;>intro hb)|(refine And.intro ?_ ?_;exact zI)|(refine And.intro ?_ ?_<;>intro hg)|exact zC|fail)
   ·rw[h1]at hb
    have hz:(within s.view&&(within s.slot&&zcp s.st))=false:=by simp[hb]
    repeat'(first|refine zq (I h1 hz) ?_|exact zd (I h1 hz)|(refine zaa ?_ ?_<;>intro hb)|(refine And.intro ?_ ?_;exact zI)|(refine And.intro ?_ ?_<;>intro hg)|exact zC|fail)
  ·have hb:=zdw s.slot
   simp only[Nat.reduceEqDiff,if_true,if_false]at hF
   rw[←hF]
   cases h1:decide (s.slot<0)
   ·cases h2:decide (s.slot>2305843009213693952)
    ·rw[h1,h2]at hb
     repeat'(first|refine zq (I h1 h2) ?_|exact zd (I h1 h2)|(refine zaa ?_ ?_<;>intro hb)|(refine And.intro ?_ ?_;exact zI)|(refine And.intro ?_ ?_<;>intro hg)|exact zC|fail)
     exact hK _ 3 (Gh.canon [1] [] [] (zk (I hw hagg)) rfl rfl) (by omega) (by simp[hb]) (by omega)
    ·rw[h1,h2]at hb
     have hz:(within s.slot&&zcp s.st)=false:=by simp[hb]
     repeat'(first|refine zq (I h1 (I h2 hz)) ?_|exact zd (I h1 (I h2 hz))|(refine zaa ?_ ?_<;>intro hb)|(refine And.intro ?_ ?_;exact zI)|(refine And.intro ?_ ?_<;>intro hg)|exact zC|fail)
   ·rw[h1]at hb
    have hz:(within s.slot&&zcp s.st)=false:=by simp[hb]
    repeat'(first|refine zq (I h1 hz) ?_|exact zd (I h1 hz)|(refine zaa ?_ ?_<;>intro hb)|(refine And.intro ?_ ?_;exact zI)|(refine And.intro ?_ ?_<;>intro hg)|exact zC|fail)
 ·have hi:i=3:=by
   have:¬(i:Int)<3:=by simpa using hge
   omega
  subst hi
  simp only[Nat.reduceEqDiff,if_false]at hF
  rw[←hF]
  repeat'(first|refine zq0 ?_|exact zd0|refine zc (hri) ?_|refine zg (hri) ?_|(refine zaa ?_ ?_<;>intro hb)|(refine And.intro ?_ ?_;exact zI)|(refine And.intro ?_ ?_<;>intro hg)|exact zC|fail)
theorem zfp {n:Int} (h:zbE n):within n=true:=by
 unfold zbE at h
 rw[zdw]
 simp;omega
theorem zsi (acts:List Act) {d v s:Int} (hd:zbE d) (hv:zbE v) (hs:zbE s):zbH ⟨d,v,s,znO acts⟩=true:=by
 simp only[zbH,zfp hd,zfp hv,zfp hs,zf9.2 (zmI acts).rt,Bool.and_self]
theorem zxX {l:List Value} (h:l.length=1):∃a,l=[a]:=by
 match l,h with
 |[a],_=>exact⟨a,rfl⟩
theorem zul {P:Program} {t:Nat} {z:Value} (h:(P.info? t).bind (·.zero)=some z) (w:World):(zeroValue t).run P w= .ok z w:=by
 cases hi:P.info? t with
 |none=>rw[hi]at h;cases h
 |some i=>rw[hi]at h;simp[zeroValue,typeInfo,hi,show i.zero=some z from h]
def zvF:Value→Value
 | .iface _ x=>x
 |_=>undef
abbrev zvG (n:Int):Value:= .iface 51 (.int .i64 n)
def zvH (x:Value):Prop:=∃n,x=zvG n
def szR (_:Nat):Nat:=1
def nwR (x:Value) (_:Nat):List Value:=[zvF x]
theorem zvi {ls:List (List Value)} (h:ls.length=[4].length) (hs:∀(i k:Nat) (l:List Value),[4][i]? =some k→ls[i]? =some l→l.length=szR k):∃a,ls=[[a]]:=by
 match ls,h with
 |[x],_=>
  obtain⟨a,rfl⟩:=zxX (hs 0 4 x rfl rfl)
  exact⟨a,rfl⟩
theorem zxW:(Tryz.prog.info? 51).bind (·.zero)=some (.int .i64 0):=by kernel_rfl
theorem zh1:zne Tryz.prog 52 [4] szR nwR zvH:=by
 refine zpn zar mixed (T:=Ty) Tryz.func52 rfl rfl Tryz.ntmps52 rfl rfl rfl rfl rfl rfl rfl (by decide) (by decide) (by decide) ?_
 rintro x ⟨n,rfl⟩ ls hl hs
 obtain⟨a,rfl⟩:=zvi hl hs
 refine⟨.tuple #[.int .i64 n, .bool true], .tup [ai n,ab true], ?_, ?_,rfl, ?_⟩
 ·intro w
  simp[Instr.typeAssert,Tryz.underlying51]
 ·intro cx w r β
  simp[ReA,ReAs,ReC,ReCs,Rd,flat]
 ·simp only[zbG,plainO,List.map_cons,List.map_nil]
  first|refine zs0 ?_|exact zt0
  repeat'(first|refine zq0 ?_|exact zd0|(refine zaa ?_ ?_<;>intro hb)|(refine And.intro ?_ ?_;exact zI)|(refine And.intro ?_ ?_<;>intro hg)|exact zC|fail)
  rfl
theorem zi5:zro Tryz.prog 52 1:=by
 refine zmj zar mixed (T:=Ty) Tryz.func52 rfl rfl Tryz.ntmps52 rfl rfl rfl rfl rfl rfl rfl (by decide) (y7:= .tuple #[.int .i64 0, .bool false]) (V7:= .tup [ai 0,ab false]) ?_ ?_ (by decide) rfl ?_
 ·intro w
  simp[Instr.typeAssert,Tryz.underlying51,zul zxW w]
 ·intro cx w r β
  simp[ReA,ReAs,ReC,ReCs,Rd,flat]
 ·simp only[List.replicate]
  first|refine zs0 ?_|exact zt0
  repeat'(first|refine zq0 ?_|exact zd0|(refine zaa ?_ ?_<;>intro hb)|(refine And.intro ?_ ?_;exact zI)|(refine And.intro ?_ ?_<;>intro hg)|exact zC|fail)
theorem zuk (s:Sn) (h:Small s.st) (hm:zbH s=true):CallOK Tryz.prog 53 [.f (.agg s.lent)] (fun r o=>r=[]∧o=[]):=by
 refine zac zar mixed (T:=Ty) (n:=6) Tryz.func53 (c:=Tryz.f53.body.getD .skip) rfl Tryz.results53 Tryz.ntmps53 Tryz.call53 ?_
 simp only[Tryz.f53,Option.getD]
 have hmy:=zi6 s h
 rw[hm]at hmy
 repeat'(first|refine zq0 ?_|exact zd0|refine zc (hmy) ?_|refine zg (hmy) ?_|(refine zaa ?_ ?_<;>intro hb)|(refine And.intro ?_ ?_;exact zI)|(refine And.intro ?_ ?_<;>intro hg)|exact zC|fail)
theorem zsh (s:Sn) (h:Small s.st) (hm:zbH s=false):zhL Tryz.prog 53 [.f (.agg s.lent)] (zvG 1):=by
 refine zpw zar mixed (T:=Ty) (n:=6) Tryz.func53 (c:=Tryz.f53.body.getD .skip) rfl Tryz.ntmps53 Tryz.call53 ?_
 simp only[Tryz.f53,Option.getD]
 have hmy:=zi6 s h
 rw[hm]at hmy
 repeat'(first|refine zq @ziE ?_|exact zd @ziE|refine zc (hmy) ?_|refine zg (hmy) ?_|(refine zaa ?_ ?_<;>intro hb)|(refine And.intro ?_ ?_;exact zI)|(refine And.intro ?_ ?_<;>intro hg)|exact zC|fail)
def zeg (x:XS) (s:Sn):XS×Int:=if zbH s=false then(x,1)else if s.done≤x.done then(x,11)else(⟨x.lease,s.done,s.view,s.slot,s.st⟩,0)
set_option maxHeartbeats 4000000 in
theorem zdU (x:XS) (s:Sn) (h:Small s.st):CallOK Tryz.prog 27 [.obj x.ro, .f (.agg s.lent)] (fun r o=>r=[ri (zeg x s).2]∧o=[(zeg x s).1.ro]):=by
 refine zjl zar mixed (T:=Ty) Tryz.func27 rfl Tryz.results27 Tryz.ntmps27 Tryz.call27 Tryz.call52 (ks:=[4]) rfl rfl rfl rfl rfl rfl (by decide) (by decide) (by decide)
  (xs:=[.agg s.lent]) (l0:=x.ro) (sz:=szR) (nw:=nwR) zi5 zh1 ⟨[.one (.ptr ⟨0,0,0⟩ 0), .agg s.lent,dd, .one (.ptr ⟨3,0,0⟩ 0), .one (.ptr ⟨4,0,0⟩ 0),dd,dd,dd,dd,dd,dd,dd,dd,dd,dd,dd,dd,dd,dd,dd,dd,dd,dd],[xsR 1 x.lease x.done x.view x.slot x.st,(3,{next:=10,l:=[some {e:=0,var:=true,fz:=false,sz:=0,cells:=s.lent},none,none,none,none,none,none,none,none,none]}),(4,{next:=1,l:=[some {e:=0,var:=true,fz:=false,sz:=0,cells:=[di 0]},none]})]⟩ ?_ ?_ rfl ?_
 ·simp only[List.map_cons,List.map_nil]
  repeat'(first|refine zq0 ?_|exact zd0|(refine zaa ?_ ?_<;>intro hb)|(refine And.intro ?_ ?_;exact zI)|(refine And.intro ?_ ?_<;>intro hg)|exact zC|fail)
  exact fun _ _ _ h=>h
 ·exact⟨⟨_,rfl,rfl,rfl,rfl,rfl⟩,trivial⟩
 ·cases hm:zbH s
  ·have hP:zeg x s=(x,1):=by unfold zeg;rw[if_pos hm]
   rw[hP]
   repeat'(first|refine zq0 ?_|exact zd0|(refine zaa ?_ ?_<;>intro hb)|(refine And.intro ?_ ?_;exact zI)|(refine And.intro ?_ ?_<;>intro hg)|exact zC|fail)
   refine zrp (zsh s h hm) rfl ?_
   simp only[zgn,zgo,zgm,zmb]
   refine⟨⟨_,rfl⟩,rfl,⟨⟨_,rfl,rfl,rfl,rfl,rfl⟩,trivial⟩,_,⟨x.cells,rfl,rfl,rfl,rfl⟩, ?_⟩
   rw[show zej 23 [4] (nwR (zvG 1)) {e:=0,var:=true,fz:=false,bor:=true,sz:=0,cells:=[di x.lease,di x.done,di x.view,di x.slot,di x.st.time,di x.st.num,di x.st.token, .d (.sl x.st.sess.length (zaE x.st.sess)), .d (.sl x.st.locks.length (zaf x.st.locks)), .d (.sl x.st.memos.length (zav x.st.memos))]}=
    ⟨[.one (.ptr ⟨0,0,0⟩ 0),dd,dd,dd, .one (.ptr ⟨4,0,0⟩ 0),dd,dd,dd,dd,dd,dd,dd,dd,dd,dd,dd,dd,dd,dd,dd,dd,dd,dd],[(0,{next:=1,l:=[some {e:=0,var:=true,fz:=false,bor:=true,sz:=0,cells:=[di x.lease,di x.done,di x.view,di x.slot,di x.st.time,di x.st.num,di x.st.token, .d (.sl x.st.sess.length (zaE x.st.sess)), .d (.sl x.st.locks.length (zaf x.st.locks)), .d (.sl x.st.memos.length (zav x.st.memos))]}]}),(4,{next:=1,l:=[some {e:=0,var:=true,fz:=false,sz:=0,cells:=[di 1]}]})]⟩ from rfl]
   first|refine zs0 ?_|exact zt0
  ·have hmo:=zuk s h hm
   have hcp:=zgs s h
   cases hd:decide (s.done≤x.done)
   ·have hP:zeg x s=(⟨x.lease,s.done,s.view,s.slot,s.st⟩,0):=by unfold zeg;rw[if_neg (by rw[hm];simp),if_neg (by simpa using hd)]
    rw[hP]
    repeat'(first|(with_reducible first|refine za3 8 ?_|refine zaP 8 ?_|refine zaQ 8 ?_)|refine zu hd ?_|exact zd hd|(with_reducible first|refine zab _ _ ?_)|refine zc (hmo) ?_|refine zg (hmo) ?_|refine zc (hcp) ?_|refine zg (hcp) ?_|(refine zaa ?_ ?_<;>intro hb)|(refine And.intro ?_ ?_;exact zI)|(refine And.intro ?_ ?_<;>intro hg)|exact zC|fail)
    refine za9 (za2 (Gh.sealF 0 7 (.own ⟨0,8,7⟩ 0 s.st.sess.length) ?_) ?_)
    ·exact zo @zfB
    refine zf @zfB ?_
    refine za2 (Gh.sealF 0 8 (.own ⟨0,9,8⟩ 0 s.st.locks.length) ?_) ?_
    ·exact zo @zay
    refine zf @zay ?_
    refine za2 (Gh.sealF 0 9 (.own ⟨0,10,9⟩ 0 s.st.memos.length) ?_) ?_
    ·exact zo @zaJ
    refine zf @zaJ ?_
    repeat'(first|refine zq @zfy ?_|exact zd @zfy|(refine zaa ?_ ?_<;>intro hb)|(refine And.intro ?_ ?_;exact zI)|(refine And.intro ?_ ?_<;>intro hg)|exact zC|fail)
   ·have hP:zeg x s=(x,11):=by unfold zeg;rw[if_neg (by rw[hm];simp),if_pos (by simpa using hd)]
    rw[hP]
    repeat'(first|refine zq (I hd @zfy) ?_|exact zd (I hd @zfy)|refine zc (hmo) ?_|refine zg (hmo) ?_|(refine zaa ?_ ?_<;>intro hb)|(refine And.intro ?_ ?_;exact zI)|(refine And.intro ?_ ?_<;>intro hg)|exact zC|fail)
theorem zuq {x:XS} {i:Nat} (h:XMk x i) (hi:i≤100):zbH x.sn=true:=by
 have hH:zaL=2305843009213693952:=rfl
 obtain⟨m1,m2,m3,m4,m5,m6,m7,m8,m9⟩:=h
 have w:∀n:Int,0≤n→n≤1000→within n=true:=fun n h1 h2=>by unfold within;simp;omega
 show(within x.done&&(within x.view&&(within x.slot&&zcp x.st)))=true
 rw[w _ (by omega) (by omega),w _ (by omega) (by omega),w _ (by omega) (by omega),zf9.2 m1]
 rfl
set_option maxHeartbeats 8000000 in
theorem zlX (rows:List Row) (hl:rows.length<2^60) (hrw:∀r∈rows,rowOk r) (cut:Int) (hcut:zbE cut):
  CallOK Tryz.prog 6 [.f (al rows.length (zkb rows)), .f (au cut)] (fun r o=>r=[rb true]∧o=[]):=by
 refine zac zar mixed (T:=Ty) (n:=105) Tryz.func6 (c:=Tryz.f6.body.getD .skip) rfl Tryz.results6 Tryz.ntmps6 Tryz.call6 ?_
 simp only[Tryz.f6,Option.getD]
 have haw:=zgt
 cases hc:(decide ((rows.length:Int)>30)||((rows.length:Int)==0))
 case true=>repeat'(first|refine zq hc ?_|exact zd hc|refine zc (haw) ?_|refine zg (haw) ?_|(refine zaa ?_ ?_<;>intro hb)|(refine And.intro ?_ ?_;exact zI)|(refine And.intro ?_ ?_<;>intro hg)|exact zC|fail)
 rw[Bool.or_eq_false_iff]at hc
 obtain⟨hc1,hc2⟩:=hc
 have h30:rows.length≤30:=by simp at hc1;omega
 have h0:0<rows.length:=by
  rcases rows with _|⟨a,l⟩
  ·simp at hc2
  ·simp
 have n1:=zj5 60 rfl
 have n2:=zqS 60 rfl
 obtain⟨k,hk,hkl⟩:∃k:Nat,cut.tmod (rows.length:Int)=(k:Int)∧k<rows.length:=by
  unfold zbE at hcut
  refine⟨(cut.tmod (rows.length:Int)).toNat, ?_, ?_⟩
  ·rw[Int.toNat_of_nonneg (Int.tmod_nonneg _ hcut.1)]
  ·have:=Int.tmod_lt_of_pos cut (b:=(rows.length:Int)) (by omega)
   have:=Int.tmod_nonneg (rows.length:Int) hcut.1
   omega
 have hwc:=zbI hcut
 have hl0:((rows.length:Int)=0)=False:=eq_false (by omega)
 repeat'(first|(with_reducible first|refine zab _ _ ?_|refine zaV ?_|refine zaW ?_)|rw[zaj]|simp only[hc1,hc2,hk,hwc,hl0,zY,Int.reduceEq,Int.reduceBEq,Int.reduceBNe,Nat.reduceSub,Nat.reduceEqDiff,Nat.reduceAdd,Nat.reduceMul,Nat.reduceLeDiff,Nat.reduceLT,Nat.reduceBEq,reduceCtorEq]|((first|((try refine zax ?_);apply zaA)|(apply zaB;intro _));(solve|exact(haw)|(refine CallOK.le (haw) ?_;exact zM)|fail);try case hn=>rfl)|refine zb0 (n1) ?_|(refine zb0 (CallP.le (n1) ?_) ?_;focus(simp[zbZ,aLe,zjt,cLe]<;>fail))|refine zb0 (n2) ?_|(refine zb0 (CallP.le (n2) ?_) ?_;focus(simp[zbZ,aLe,zjt,cLe]<;>fail))|refine zal ?_|refine zaa (fun hb=> ?_) (fun hb=> ?_)|(refine And.intro ?_ ?_;exact zI)|refine And.intro (fun hg=> ?_) (fun hg=> ?_)|exact zC|fail)
 refine zao (τ:=Nat×XS×XS) (fun t=>⟨[al rows.length (zkb rows),dd,dd,dd,dd, .one (.ptr ⟨24,0,1⟩ 0), .one (.ptr ⟨25,0,1⟩ 0), .one (.ptr ⟨26,0,1⟩ 0),ai k,ai t.1,dd,dd,dd,dd,dd,dd,dd,dd,dd,dd,dd,dd,dd,dd,dd,dd,dd,dd,dd,dd,dd,dd,dd,dd,dd,dd,dd,dd,dd,dd,dd,dd,dd,dd,dd,dd,dd,dd,dd,dd,dd,dd,dd,dd,dd,dd,dd,dd,dd,dd,dd,dd,dd,dd,dd,dd,dd,dd,dd,dd,dd,dd,dd,dd,dd,dd,dd,dd,dd,dd,dd,dd,dd,dd,dd,dd,dd,dd,dd,dd,dd,dd,dd,dd,dd,dd,dd,dd,dd,dd,dd,dd,dd,dd,dd],[xO 24 t.2.1,xO 25 t.2.2,xO 26 t.2.1,(10,⟨2,[]⟩),(11,⟨2,[]⟩),(13,⟨2,[]⟩),(71,⟨2,[]⟩),(75,⟨2,[]⟩),(84,⟨2,[]⟩)]⟩)
  (fun t=>t.1≤rows.length∧XMk t.2.1 t.1∧(t.1≤k→t.2.2=znL 60)∧(k<t.1→t.2.2=t.2.1)∧(t.1=0→t.2.1=znL 60)) (fun _=>()) (fun t=>rows.length - t.1) (0,znL 60,znL 60)
  (Gh.canon [24,25,26] [10,11,13,71,75,84] [] zK rfl rfl) ⟨Nat.zero_le _,zuw,fun _=>rfl,fun h=>absurd h (by simp),fun _=>rfl⟩ ?_
 intro⟨i,x,y⟩ ⟨j1,j3,j4,j5,j6⟩ _ K hK
 simp only at j1 j3 j4 j5 j6 hK⊢
 have hcn:=zqL j3 (by omega)
 by_cases hi:i<rows.length
 ·have hb1:decide ((i:Int)<rows.length)=true:=by simp;omega
  have hat:=zoL hi
  have hw:=zan hi (by omega)
  have hro:=hrw _ (List.getElem_mem hi)
  have hmk:=zuv j3 (by omega) hro
  obtain⟨f1,f2,f3,f4⟩:=zdp j3 (by omega) hro
  have hbl:=zh6 x hcn.sm hcn.rt hcn.vw hcn.sl rows[i] hro
  generalize rows[i]=q at*
  generalize zbD x q=b at*
  have d1:=zh5 x b f2 hcn.rt hcn.nm hcn.tk hcn.dn
  have d2:=zs9 x b f2 hcn.rt hcn.nm hcn.tk hcn.dn
  obtain⟨e1,e2,e3,e4,e5⟩:=zsj hcn.rt hcn.nm hcn.tk b
  have hsp:=zg5 x hcn.sm
  have hmay:=zuq j3 (by omega)
  have hxl:=j3.lease
  have hxd:=j3.done
  generalize doP x b=z at*
  by_cases hik:i<k
  ·have c1:((i:Int)==(k:Int))=false:=by simp;omega
   have c2:decide ((i:Int)<(k:Int))=true:=by simp;omega
   repeat'(first|refine zq (I hb1 (I c1 (I c2 (I hat (I @zch zca))))) ?_|exact zd (I hb1 (I c1 (I c2 (I hat (I @zch zca)))))|refine zc (hbl) ?_|refine zg (hbl) ?_|(refine zaa ?_ ?_<;>intro hb)|(refine And.intro ?_ ?_;exact zI)|(refine And.intro ?_ ?_<;>intro hg)|exact zC|fail)
   refine zj (d2) ?_
   repeat'(first|refine zq0 ?_|exact zd0|(refine zaa ?_ ?_<;>intro hb)|(refine And.intro ?_ ?_;exact zI)|(refine And.intro ?_ ?_<;>intro hg)|exact zC|fail)
   refine zj (d1) ?_
   repeat'(first|refine zq c2 ?_|exact zd c2|(refine zaa ?_ ?_<;>intro hb)|(refine And.intro ?_ ?_;exact zI)|(refine And.intro ?_ ?_<;>intro hg)|exact zC|fail)
   refine hK _ (i+1,z.1,y) (Gh.canon [24,25,26] [] [] (zk hw) rfl rfl) ⟨hi,hmk,fun _=>j4 (by omega),fun h=>absurd h (by omega),fun h=>absurd h (by simp)⟩ trivial (by simp only;omega)
  ·have c2:decide ((i:Int)<(k:Int))=false:=by simp;omega
   have sa:=zi7 z.2.1 z.2.1 (by omega) (by omega) e3 e3
   rw[zh2]at sa
   have hsm:=zaN e1
   have s1:=zg5 z.1 hsm
   have s3:=zed z.1.sn z.1.sn hsm hsm
   rw[zg4]at s3
   by_cases hb:i=k∧0<k
   ·obtain⟨hik2,hk0⟩:=hb
    subst hik2
    have hy:=j4 (Nat.le_refl _)
    subst hy
    have hr1:zeg (znL 60) x.sn=(x,0):=by
     unfold zeg
     rw[if_neg (by rw[hmay];simp),if_neg (by show¬x.done≤0;omega)]
     obtain⟨a1,a2,a3,a4,a5⟩:=x
     simp only at hxl
     subst hxl
     rfl
    have hr2:zeg x x.sn=(x,11):=by
     unfold zeg
     rw[if_neg (by rw[hmay];simp),if_pos (Int.le_refl _)]
    have k1:=zdU (znL 60) x.sn hcn.sm
    rw[hr1]at k1
    have k2:=zdU x x.sn hcn.sm
    rw[hr2]at k2
    simp only at k1 k2
    have c3:decide ((i:Int)>0)=true:=by simp;omega
    repeat'(first|refine zq (I hb1 (I c2 (I c3 (I hat (I @zch zca))))) ?_|exact zd (I hb1 (I c2 (I c3 (I hat (I @zch zca)))))|refine zc (hbl) ?_|refine zg (hbl) ?_|refine zc (hsp) ?_|refine zg (hsp) ?_|(refine zaa ?_ ?_<;>intro hb)|(refine And.intro ?_ ?_;exact zI)|(refine And.intro ?_ ?_<;>intro hg)|exact zC|fail)
    refine zj (k1) ?_
    repeat'(first|refine zq (I hb1 (I c2 (I c3 (I hat (I @zch zca))))) ?_|exact zd (I hb1 (I c2 (I c3 (I hat (I @zch zca)))))|refine zc (hbl) ?_|refine zg (hbl) ?_|refine zc (hsp) ?_|refine zg (hsp) ?_|(refine zaa ?_ ?_<;>intro hb)|(refine And.intro ?_ ?_;exact zI)|(refine And.intro ?_ ?_<;>intro hg)|exact zC|fail)
    refine zj (k2) ?_
    repeat'(first|refine zq (I hb1 (I c2 (I c3 (I hat (I @zch zca))))) ?_|exact zd (I hb1 (I c2 (I c3 (I hat (I @zch zca)))))|refine zc (hbl) ?_|refine zg (hbl) ?_|refine zc (hsp) ?_|refine zg (hsp) ?_|(refine zaa ?_ ?_<;>intro hb)|(refine And.intro ?_ ?_;exact zI)|(refine And.intro ?_ ?_<;>intro hg)|exact zC|fail)
    refine zj (d2) ?_
    repeat'(first|refine zq0 ?_|exact zd0|(refine zaa ?_ ?_<;>intro hb)|(refine And.intro ?_ ?_;exact zI)|(refine And.intro ?_ ?_<;>intro hg)|exact zC|fail)
    refine zj (d1) ?_
    repeat'(first|refine zq c2 ?_|exact zd c2|(refine zaa ?_ ?_<;>intro hb)|(refine And.intro ?_ ?_;exact zI)|(refine And.intro ?_ ?_<;>intro hg)|exact zC|fail)
    refine zj (d1) ?_
    repeat'(first|refine zq @zaJ ?_|exact zd @zaJ|refine zc (sa) ?_|refine zg (sa) ?_|refine zc (s1) ?_|refine zg (s1) ?_|refine zc (s3) ?_|refine zg (s3) ?_|(refine zaa ?_ ?_<;>intro hb)|(refine And.intro ?_ ?_;exact zI)|(refine And.intro ?_ ?_<;>intro hg)|exact zC|fail)
    refine hK _ (i+1,z.1,z.1) (Gh.canon [24,25,26] [] [] (zk hw) rfl rfl) ⟨hi,hmk,fun h=>absurd h (by omega),fun _=>rfl,fun h=>absurd h (by simp)⟩ trivial (by simp only;omega)
   ·have hy:y=x:=by
     by_cases h:k<i
     ·exact j5 h
     ·rw[j4 (by omega),j6 (by omega)]
    subst hy
    have c3:((i:Int)==(k:Int)&&decide ((i:Int)>0))=false:=by
     rw[Bool.and_eq_false_iff]
     by_cases h:i=k
     ·right;simp;omega
     ·left;simp;omega
    repeat'(first|refine zq (I hb1 (I c2 (I c3 (I hat (I @zch zca))))) ?_|exact zd (I hb1 (I c2 (I c3 (I hat (I @zch zca)))))|refine zc (hbl) ?_|refine zg (hbl) ?_|(refine zaa ?_ ?_<;>intro hb)|(refine And.intro ?_ ?_;exact zI)|(refine And.intro ?_ ?_<;>intro hg)|exact zC|fail)
    refine zj (d2) ?_
    repeat'(first|refine zq0 ?_|exact zd0|(refine zaa ?_ ?_<;>intro hb)|(refine And.intro ?_ ?_;exact zI)|(refine And.intro ?_ ?_<;>intro hg)|exact zC|fail)
    refine zj (d1) ?_
    repeat'(first|refine zq c2 ?_|exact zd c2|(refine zaa ?_ ?_<;>intro hb)|(refine And.intro ?_ ?_;exact zI)|(refine And.intro ?_ ?_<;>intro hg)|exact zC|fail)
    refine zj (d1) ?_
    repeat'(first|refine zq @zaJ ?_|exact zd @zaJ|refine zc (sa) ?_|refine zg (sa) ?_|refine zc (s1) ?_|refine zg (s1) ?_|refine zc (s3) ?_|refine zg (s3) ?_|(refine zaa ?_ ?_<;>intro hb)|(refine And.intro ?_ ?_;exact zI)|(refine And.intro ?_ ?_<;>intro hg)|exact zC|fail)
    refine hK _ (i+1,z.1,z.1) (Gh.canon [24,25,26] [] [] (zk hw) rfl rfl) ⟨hi,hmk,fun h=>absurd h (by omega),fun _=>rfl,fun h=>absurd h (by simp)⟩ trivial (by simp only;omega)
 ·have hb1:decide ((i:Int)<rows.length)=false:=by simp;omega
  repeat'(first|refine zq hb1 ?_|exact zd hb1|refine zc (haw) ?_|refine zg (haw) ?_|(refine zaa ?_ ?_<;>intro hb)|(refine And.intro ?_ ?_;exact zI)|(refine And.intro ?_ ?_<;>intro hg)|exact zC|fail)
def sn0:Sn:=⟨0,0,0,st0⟩
theorem zui (b:Batch):CallOK Tryz.prog 12 [.f zun, .f (.agg b.lent)] (fun r o=>r=[.one (.own 6 0 [] false),rb false]∧o=[]):=by
 refine CallOK.nil ?_
 refine zac zar mixed (T:=Ty) (n:=102) Tryz.func12 (c:=Tryz.f12.body.getD .skip) rfl Tryz.results12 Tryz.ntmps12 Tryz.call12 ?_
 simp only[Tryz.f12,Option.getD]
 repeat'(first|refine zq0 ?_|exact zd0|(refine zaa ?_ ?_<;>intro hb)|(refine And.intro ?_ ?_;exact zI)|(refine And.intro ?_ ?_<;>intro hg)|exact zC|fail)
 simp[zbj,zdo,za4]
theorem zqJ:CallOK Tryz.prog 23 [.f zun] (fun r o=>r=[.agg [.d (iD 0), .d (iD 0), .d (iD 0), .d (iD 0), .d (iD 0), .d (iD 0), .d (.sl 0 []), .d (.sl 0 []), .d (.sl 0 [])]]∧o=[]):=by
 refine CallOK.nil ?_
 refine zac zar mixed (T:=Ty) (n:=11) Tryz.func23 (c:=Tryz.f23.body.getD .skip) rfl Tryz.results23 Tryz.ntmps23 Tryz.call23 ?_
 simp only[Tryz.f23,Option.getD]
 repeat'(first|refine zq0 ?_|exact zd0|(refine zaa ?_ ?_<;>intro hb)|(refine And.intro ?_ ?_;exact zI)|(refine And.intro ?_ ?_<;>intro hg)|exact zC|fail)
 simp[zbj,zdo,zbr,za4]
theorem zmA (s:Sn):CallOK Tryz.prog 27 [.f zun, .f (.agg s.lent)] (fun r o=>r=[ri 6]∧o=[]):=by
 refine zkW zar mixed (T:=Ty) Tryz.func27 rfl Tryz.results27 Tryz.ntmps27 Tryz.call27 Tryz.call52 (ks:=[4]) rfl rfl rfl rfl rfl rfl (by decide) (by decide)
  (xs:=[zun, .agg s.lent]) (sz:=szR) (nw:=nwR) zi5 zh1 ⟨[zun, .agg s.lent,dd, .one (.ptr ⟨3,0,0⟩ 0), .one (.ptr ⟨4,0,0⟩ 0),dd,dd,dd,dd,dd,dd,dd,dd,dd,dd,dd,dd,dd,dd,dd,dd,dd,dd],[(3,{next:=10,l:=[some {e:=0,var:=true,fz:=false,sz:=0,cells:=s.lent},none,none,none,none,none,none,none,none,none]}),(4,{next:=1,l:=[some {e:=0,var:=true,fz:=false,sz:=0,cells:=[di 0]},none]})]⟩ ?_ ?_ rfl ?_
 ·simp only[List.map_cons,List.map_nil]
  repeat'(first|refine zq0 ?_|exact zd0|(refine zaa ?_ ?_<;>intro hb)|(refine And.intro ?_ ?_;exact zI)|(refine And.intro ?_ ?_<;>intro hg)|exact zC|fail)
  exact fun _ _ _ h=>h
 ·exact⟨⟨_,rfl,rfl,rfl,rfl,rfl⟩,trivial⟩
 ·repeat'(first|refine zq (I @znd @zhw) ?_|exact zd (I @znd @zhw)|(refine zaa ?_ ?_<;>intro hb)|(refine And.intro ?_ ?_;exact zI)|(refine And.intro ?_ ?_<;>intro hg)|exact zC|fail)
theorem zsg (i:Nat):doP ⟨60,(i:Int),0,0,st0⟩ zso=(⟨60,((i+1:Nat):Int),0,0,st0⟩,[],false):=by
 unfold doP
 rw[if_neg (by decide),if_pos (by unfold zdq;rfl)]
 rfl
theorem zuj (a:Sn):zbH ⟨1000,a.view,a.slot,{a.st with num:= -1}⟩=false:=by
 have h:zcp {a.st with num:= -1}=false:=by
  unfold zcp
  have:within (-1)=false:=by decide
  simp only[this,Bool.and_false,Bool.false_and]
 unfold zbH
 rw[h]
 simp
def zvh:Batch:=⟨false,0,⟨0,0⟩,0,[]⟩
set_option maxHeartbeats 8000000 in
theorem zii (acts:List Act) (hl:acts.length<2^60) (ha:∀a∈acts,zha a) (d v s:Int) (hd:zbE d) (hv:zbE v) (hs:zbE s) (fills:Int) (hf:zbE fills) (how:Int):
  CallOK Tryz.prog 7 [.f (al acts.length (zf6 acts)), .f (au d), .f (au v), .f (au s), .f (au fills), .f (au how)] (fun r o=>r=[rb true]∧o=[]):=by
 refine zac zar mixed (T:=Ty) (n:=121) Tryz.func7 (c:=Tryz.f7.body.getD .skip) rfl Tryz.results7 Tryz.ntmps7 Tryz.call7 ?_
 simp only[Tryz.f7,Option.getD]
 have haw:=zgt
 have n1:=zj5 60 rfl
 obtain⟨n,hn,hn20⟩:∃n:Nat,fills.tmod 20=(n:Int)∧n<20:=by
  unfold zbE at hf
  refine⟨(fills.tmod 20).toNat, ?_, ?_⟩
  ·rw[Int.toNat_of_nonneg (Int.tmod_nonneg _ hf.1)]
  ·have:=Int.tmod_lt_of_pos fills (b:=20) (by omega)
   have:=Int.tmod_nonneg 20 hf.1
   omega
 have hwf:=zbI hf
 repeat'(first|(with_reducible first|refine zab _ _ ?_|refine zaV ?_|refine zaW ?_)|rw[zaj]|simp only[zY,Int.reduceEq,Int.reduceBEq,Int.reduceBNe,Nat.reduceSub,Nat.reduceEqDiff,Nat.reduceAdd,Nat.reduceMul,Nat.reduceLeDiff,Nat.reduceLT,Nat.reduceBEq,reduceCtorEq]|((first|((try refine zax ?_);apply zaA)|(apply zaB;intro _));(solve|exact(haw)|(refine CallOK.le (haw) ?_;exact zM)|fail);try case hn=>rfl)|refine zb0 (n1) ?_|(refine zb0 (CallP.le (n1) ?_) ?_;focus(simp[zbZ,aLe,zjt,cLe]<;>fail))|refine zal ?_|refine zaa (fun hb=> ?_) (fun hb=> ?_)|(refine And.intro ?_ ?_;exact zI)|refine And.intro (fun hg=> ?_) (fun hg=> ?_)|exact zC|fail)
 refine zao (τ:=Nat) (fun t=>⟨[al acts.length (zf6 acts),au d,au v,au s,au fills,dd,dd,dd,dd,dd,dd,dd,dd, .one (.ptr ⟨24,0,1⟩ 0),ai t,dd,dd,dd,dd,dd,dd,dd,dd,dd,dd,dd,dd,dd,dd,dd,dd,dd,dd,dd,dd,dd,dd,dd,dd,dd,dd,dd,dd,dd,dd,dd,dd,dd,dd,dd,dd,dd,dd,dd,dd,dd,dd,dd,dd,dd,dd,dd,dd,dd,dd,dd,dd,dd,dd,dd,dd,dd,dd,dd,dd,dd,dd,dd,dd,dd,dd,dd,dd,dd,dd,dd,dd,dd,dd,dd,dd,dd,dd,dd,dd,dd,dd,dd,dd,dd,dd,dd,dd,dd,dd,dd,dd,dd,dd,dd,dd,dd,dd,dd,dd,dd,dd,dd,dd,dd,dd],[xO 24 ⟨60,(t:Int),0,0,st0⟩,(36,⟨2,[]⟩)]⟩)
  (fun t=>t≤n) (fun _=>()) (fun t=>n - t) 0
  (Gh.canon [24] [36] [] zK rfl rfl) (Nat.zero_le _) ?_
 intro i j1 _ K hK
 have d1:=zh5 ⟨60,(i:Int),0,0,st0⟩ zso ⟨by unfold i64;decide,by unfold i64;decide,by unfold i64;decide,by unfold i64;decide,by decide,fun r hr=>by cases hr⟩ zcQ (by show(0:Int)+3≤zaL;decide) (by show(0:Int)+16≤zaL;decide) (by simp only;omega)
 rw[zsg]at d1
 have d1:CallOK Tryz.prog 12 [.obj (XS.ro ⟨60,(i:Int),0,0,st0⟩), .f (.agg [db true,di 0,di 0,di 0,di 0, .lent 0 []])] (fun r o=>r=[.one (.own 6 0 [] false),rb false]∧o=[XS.ro ⟨60,((i+1:Nat):Int),0,0,st0⟩]):=d1
 by_cases hi:i<n
 ·have hb1:decide ((i:Int)<(n:Int))=true:=by simp;omega
  have hw:=zan hi (by omega)
  repeat'(first|refine zq (I hn (I hwf hb1)) ?_|exact zd (I hn (I hwf hb1))|(refine zaa ?_ ?_<;>intro hb)|(refine And.intro ?_ ?_;exact zI)|(refine And.intro ?_ ?_<;>intro hg)|exact zC|fail)
  refine zj (d1) ?_
  repeat'(first|refine zq0 ?_|exact zd0|(refine zaa ?_ ?_<;>intro hb)|(refine And.intro ?_ ?_;exact zI)|(refine And.intro ?_ ?_<;>intro hg)|exact zC|fail)
  refine hK _ (i+1) (Gh.canon [24] [] [] (zk hw) rfl rfl) hi rfl (by omega)
 ·have hin:i=n:=by omega
  subst hin
  have hb1:decide ((i:Int)<(i:Int))=false:=by simp
  have hmd:=zqP acts hl ha d v s hd hv hs
  have hmm:=zsi acts hd hv hs
  have hrt:=(zmI acts).rt
  obtain⟨a,hA⟩:∃a:Sn,a=⟨d,v,s,znO acts⟩:=⟨_,rfl⟩
  have had:a.done=d:=by rw[hA]
  rw[←hA]at hmd hmm
  have hrt:RightS a.st:=by rw[hA];exact hrt
  have hsm:=zaN hrt
  have k1:=zdU ⟨60,(i:Int),0,0,st0⟩ ⟨1000,a.view,a.slot,{a.st with num:= -1}⟩ ⟨hsm.sess,hsm.locks,hsm.memos,hsm.line,hsm.held⟩
  rw[show zeg ⟨60,(i:Int),0,0,st0⟩ ⟨1000,a.view,a.slot,{a.st with num:= -1}⟩=(⟨60,(i:Int),0,0,st0⟩,1) from by unfold zeg;rw[if_pos (zuj a)]]at k1
  have hs0:=zaN zcQ
  have s1:=zg5 ⟨60,(i:Int),0,0,st0⟩ hs0
  have z1:=zui zvh
  have z1:CallOK Tryz.prog 12 [.f zun, .f (.agg [db false,di 0,di 0,di 0,di 0, .lent 0 []])] (fun r o=>r=[.one (.own 6 0 [] false),rb false]∧o=[]):=z1
  have z2:=zqJ
  have z3:=zed sn0 sn0 hs0 hs0
  rw[zg4]at z3
  have z3:CallOK Tryz.prog 22 [.f (.agg [di 0,di 0,di 0,di 0,di 0,di 0, .lent 0 [], .lent 0 [], .lent 0 []]), .f (.agg [di 0,di 0,di 0,di 0,di 0,di 0, .lent 0 [], .lent 0 [], .lent 0 []])] (fun r o=>r=[rb true]∧o=[]):=z3
  have z4:=zqT
  have z5:=zmA a
  have z6:=zqW zvh (by decide)
  have z6:CallOK Tryz.prog 29 [.f (.agg [db false,di 0,di 0,di 0,di 0, .lent 0 []]), .f (.agg [db false,di 0,di 0,di 0,di 0, .lent 0 []])] (fun r o=>r=[rb true]∧o=[]):=z6
  have y0:(((0:Nat):Int)==0)=true:=rfl
  have y1:decide (((0:Nat):Int)>0)=false:=rfl
  cases hdn:decide (a.done>(i:Int))
  ·have k2:=zdU ⟨60,(i:Int),0,0,st0⟩ a hsm
   rw[show zeg ⟨60,(i:Int),0,0,st0⟩ a=(⟨60,(i:Int),0,0,st0⟩,11) from by unfold zeg;rw[if_neg (by rw[hmm];simp),if_pos (by simp at hdn;exact hdn)]]at k2
   simp only at k1 k2
   have q1:=zed (XS.sn ⟨60,(i:Int),0,0,st0⟩) (XS.sn ⟨60,(i:Int),0,0,st0⟩) hs0 hs0
   rw[zg4]at q1
   repeat'(first|refine zq (I hn (I hwf (I hb1 hdn))) ?_|exact zd (I hn (I hwf (I hb1 hdn)))|refine zc (hmd) ?_|refine zg (hmd) ?_|(refine zaa ?_ ?_<;>intro hb)|(refine And.intro ?_ ?_;exact zI)|(refine And.intro ?_ ?_<;>intro hg)|exact zC|fail)
   refine zj (k1) ?_
   repeat'(first|refine zq (I hn (I hwf hdn)) ?_|exact zd (I hn (I hwf hdn))|refine zc (s1) ?_|refine zg (s1) ?_|(refine zaa ?_ ?_<;>intro hb)|(refine And.intro ?_ ?_;exact zI)|(refine And.intro ?_ ?_<;>intro hg)|exact zC|fail)
   refine zj (k2) ?_
   repeat'(first|refine zq (I hn (I hwf (I hdn (I y0 y1)))) ?_|exact zd (I hn (I hwf (I hdn (I y0 y1))))|refine zc (s1) ?_|refine zg (s1) ?_|refine zc (z1) ?_|refine zg (z1) ?_|refine zc (z2) ?_|refine zg (z2) ?_|refine zc (z3) ?_|refine zg (z3) ?_|refine zc (z4) ?_|refine zg (z4) ?_|refine zc (z5) ?_|refine zg (z5) ?_|refine zc (z6) ?_|refine zg (z6) ?_|refine zc (q1) ?_|refine zg (q1) ?_|refine zc (haw) ?_|refine zg (haw) ?_|(refine zaa ?_ ?_<;>intro hb)|(refine And.intro ?_ ?_;exact zI)|(refine And.intro ?_ ?_<;>intro hg)|exact zC|fail)
  ·have k2:=zdU ⟨60,(i:Int),0,0,st0⟩ a hsm
   rw[show zeg ⟨60,(i:Int),0,0,st0⟩ a=(⟨60,a.done,a.view,a.slot,a.st⟩,0) from by unfold zeg;rw[if_neg (by rw[hmm];simp),if_neg (by simp at hdn;show¬a.done≤(i:Int);omega)]]at k2
   simp only at k1 k2
   have s2:=zg5 ⟨60,a.done,a.view,a.slot,a.st⟩ hsm
   have q1:=zed a a hsm hsm
   rw[zg4]at q1
   repeat'(first|refine zq (I hn (I hwf (I hb1 hdn))) ?_|exact zd (I hn (I hwf (I hb1 hdn)))|refine zc (hmd) ?_|refine zg (hmd) ?_|(refine zaa ?_ ?_<;>intro hb)|(refine And.intro ?_ ?_;exact zI)|(refine And.intro ?_ ?_<;>intro hg)|exact zC|fail)
   refine zj (k1) ?_
   repeat'(first|refine zq (I hn (I hwf hdn)) ?_|exact zd (I hn (I hwf hdn))|refine zc (s1) ?_|refine zg (s1) ?_|(refine zaa ?_ ?_<;>intro hb)|(refine And.intro ?_ ?_;exact zI)|(refine And.intro ?_ ?_<;>intro hg)|exact zC|fail)
   refine zj (k2) ?_
   repeat'(first|refine zq (I hn (I hwf (I hdn (I y0 y1)))) ?_|exact zd (I hn (I hwf (I hdn (I y0 y1))))|refine zc (s2) ?_|refine zg (s2) ?_|refine zc (z1) ?_|refine zg (z1) ?_|refine zc (z2) ?_|refine zg (z2) ?_|refine zc (z3) ?_|refine zg (z3) ?_|refine zc (z4) ?_|refine zg (z4) ?_|refine zc (z5) ?_|refine zg (z5) ?_|refine zc (z6) ?_|refine zg (z6) ?_|refine zc (q1) ?_|refine zg (q1) ?_|refine zc (haw) ?_|refine zg (haw) ?_|(refine zaa ?_ ?_<;>intro hb)|(refine And.intro ?_ ?_;exact zI)|(refine And.intro ?_ ?_<;>intro hg)|exact zC|fail)
end Go.Proofs.YtngleemijkaeoaaGreat
