import Derived.Test.YtngleemijkaeoaaGreatR
namespace Go.Proofs.YtngleemijkaeoaaGreat
open Go.Pk
set_option maxRecDepth 100000
set_option linter.unusedSimpArgs false
set_option linter.unusedVariables false
theorem zmP {s:St} {r:Req} {x:Sess} (h1:(r.kind==1)=false) (hf:zaE s.sess r.client=some x) (hx:(x.num !=r.session)=false):
  zaR s r=if(r.kind==3||r.kind==4)=true then
  (if((zaG s.locks r.name r.client s.token (r.kind==3)).2.2==0)=true then(⟨s.time,s.num,s.token+1,(zbd s.sess r.client s.time).1,(zaG s.locks r.name r.client s.token (r.kind==3)).1,s.memos⟩,⟨(zaG s.locks r.name r.client s.token (r.kind==3)).2.2,x.num,0,za3 (zaG s.locks r.name r.client s.token (r.kind==3)).1 r.client⟩)
  else if((zaG s.locks r.name r.client s.token (r.kind==3)).2.2==10)=true then(⟨s.time,s.num,s.token,(zbd s.sess r.client s.time).1,(zaG s.locks r.name r.client s.token (r.kind==3)).1,s.memos⟩,⟨(zaG s.locks r.name r.client s.token (r.kind==3)).2.2,x.num,(zaG s.locks r.name r.client s.token (r.kind==3)).2.1,za3 (zaG s.locks r.name r.client s.token (r.kind==3)).1 r.client⟩)
  else(⟨s.time,s.num,s.token,(zbd s.sess r.client s.time).1,s.locks,s.memos⟩,⟨(zaG s.locks r.name r.client s.token (r.kind==3)).2.2,x.num,0,za3 s.locks r.client⟩))
 else if(r.kind==5)=true then
  (if((zaZ s.locks r.name r.client s.token).2.2==0)=true then(⟨s.time,s.num,s.token+(zaZ s.locks r.name r.client s.token).2.1,(zbd s.sess r.client s.time).1,(zaZ s.locks r.name r.client s.token).1,s.memos⟩,⟨(zaZ s.locks r.name r.client s.token).2.2,x.num,0,za3 (zaZ s.locks r.name r.client s.token).1 r.client⟩)
  else(⟨s.time,s.num,s.token,(zbd s.sess r.client s.time).1,s.locks,s.memos⟩,⟨(zaZ s.locks r.name r.client s.token).2.2,x.num,0,za3 s.locks r.client⟩))
 else if(r.kind==6)=true then(za9 ⟨s.time,s.num,s.token,(zbd s.sess r.client s.time).1,s.locks,s.memos⟩ [r.client],⟨0,0,0,[]⟩)
 else(⟨s.time,s.num,s.token,(zbd s.sess r.client s.time).1,s.locks,s.memos⟩,⟨0,x.num,0,za3 s.locks r.client⟩):=by
 unfold zaR
 rw[if_neg (by rw[h1];simp),hf]
 simp only
 rw[if_neg (by rw[hx];simp)]
 split
 ·by_cases e0:(zaG s.locks r.name r.client s.token (r.kind==3)).2.2=0
  ·rw[if_pos e0,if_neg (by rw[e0];decide),if_pos (by simpa using e0)]
  ·by_cases e10:(zaG s.locks r.name r.client s.token (r.kind==3)).2.2=10
   ·rw[if_neg e0,if_pos e10,if_pos e10,if_neg (by simpa using e0),if_pos (by simpa using e10)]
   ·rw[if_neg e0,if_neg e10,if_neg e10,if_neg (by simpa using e0),if_neg (by simpa using e10)]
 ·split
  ·by_cases e0:(zaZ s.locks r.name r.client s.token).2.2=0
   ·rw[if_pos e0,if_pos (by simpa using e0)]
   ·rw[if_neg e0,if_neg (by simpa using e0)]
  ·rfl
theorem zfo {s:St} (h:Small s) (r:Req):(zaR s r).1.memos=s.memos:=by
 unfold zaR
 split
 ·unfold zbo
  split
  ·rfl
  ·split<;>rfl
 ·split
  ·rfl
  ·split
   ·rfl
   ·simp only
    repeat' split
    all_goals rfl
theorem zg6 {b:ByteArray} (h:nameP b=true):b.size≤12:=by
 unfold nameP at h
 simp only[Bool.and_eq_true,decide_eq_true_eq]at h
 omega
theorem zmQ {r:Reply} (h:zcD r=true):zcx r:=by
 unfold zcD at h
 simp only[Bool.and_eq_true,Bool.not_eq_true',Bool.or_eq_false_iff,decide_eq_false_iff_not]at h
 obtain⟨⟨_,h1,_⟩,h2⟩:=h
 refine⟨by omega,fun g hg=> ?_⟩
 obtain⟨j,hj,rfl⟩:=List.getElem_of_mem hg
 have:=zb5.1 h2 j hj
 unfold zcp at this
 simp only[Bool.not_eq_true',Bool.or_eq_false_iff,Bool.not_eq_false']at this
 have:=zg6 this.1.1.1
 omega
theorem zg7:∀{l:List Int} {a b:Int},l.Pairwise (·<·)→(∀x∈l,a≤x∧x<b)→(l.length:Int)≤max (b - a) 0
 |[],a,b,_,_=>by simp;omega
 |x::l,a,b,h,hb=>by
  have h':=List.pairwise_cons.1 h
  have hx:=hb x (List.mem_cons_self ..)
  have:=zg7 (a:=x+1) (b:=b) h'.2 (fun y hy=>⟨by have:=h'.1 y hy;omega,(hb y (List.mem_cons_of_mem _ hy)).2⟩)
  simp only[List.length_cons];omega
theorem zcJ {m:Memo} (h:answerB m=true):(0≤m.client∧m.client<8)∧(1≤m.seq∧m.seq≤zaS)∧zcD m.reply=true:=by
 unfold answerB at h
 simp only[Bool.and_eq_true,decide_eq_true_eq]at h
 exact⟨⟨h.1.1.1.1,h.1.1.1.2⟩,⟨h.1.1.2,h.1.2⟩,h.2⟩
theorem zbG {s:St} (h:RightS s):Small s:=by
 refine⟨by have:=h.sl;omega,by have:=h.ll;omega, ?_,fun k hk=> ?_,fun m hm=>zmQ (zcJ (h.mok m hm)).2.2⟩
 ·have:=zg7 (a:=0) (b:=8) (zmW.1 h.ms) (fun x hx=>by
   obtain⟨m,hm,rfl⟩:=List.mem_map.1 hx
   exact(zcJ (h.mok m hm)).1)
  rw[List.length_map]at this
  omega
 ·obtain⟨a,_,b,_⟩:=h.lok k hk
  have h1:=(zbx.1 b).1
  have h2:=zg6 (zb8.1 a).1
  omega
theorem ziN {l:List Lk} (hl:l.length<2^30) (hn:∀k∈l,k.name.size<2^62) (c:Int) (a b d:Int):zcx ⟨a,b,d,za3 l c⟩:=by
 refine⟨?_,fun g hg=> ?_⟩
 ·unfold za3
  rw[List.length_map]
  exact Nat.lt_of_le_of_lt (List.length_filter_le ..) hl
 ·unfold za3 at hg
  obtain⟨k,hk,rfl⟩:=List.mem_map.1 hg
  exact hn k (List.mem_filter.1 hk).1
theorem zmR (s:St) (r:Req):(zaR s r).2.held=[]∨(zaR s r).2.held=za3 (zaR s r).1.locks r.client:=by
 unfold zaR
 split
 ·unfold zbo
  split
  ·exact .inr rfl
  ·split
   ·exact .inl rfl
   ·exact .inr rfl
 ·split
  ·exact .inl rfl
  ·split
   ·exact .inl rfl
   ·simp only
    repeat' split
    all_goals first|exact .inr rfl|exact .inl rfl
theorem zg8 {s:St} (h:RightS s) {r:Req} (hm:Req.may r=true) (hN:s.num+1≤zaS) (hT:s.token+4≤zaS):zcx (zaR s r).2:=by
 have hs:=zbG (zfp h hm hN hT).rt
 rcases zmR s r with e|e
 ·exact⟨by rw[e];simp,fun g hg=>by rw[e]at hg;cases hg⟩
 ·have:=ziN hs.locks (fun k hk=>(hs.line k hk).2) r.client 0 0 0
  unfold zcx at this⊢
  rw[e]
  exact this
theorem ziO {l:List Lk} (hs:SL l) (h:∀k∈l,zm0 k=true) (c:Int):zbT (zcp (za3 l c)) 0 (za3 l c)=true:=by
 have hp:(za3 l c).Pairwise fun a b=>zdg a.name b.name=true:=by
  unfold za3
  rw[List.pairwise_map]
  exact List.Pairwise.sublist (List.filter_sublist ..) hs
 rw[zb5]
 intro j hj
 rw[Nat.zero_add]
 have hm:∃k∈l,(za3 l c)[j]=⟨k.name,k.token⟩:=by
  have:=List.getElem_mem hj
  unfold za3 at this
  obtain⟨k,hk,e⟩:=List.mem_map.1 this
  exact⟨k,(List.mem_filter.1 hk).1,e.symm⟩
 obtain⟨k,hk,e⟩:=hm
 have ho:=zb8.1 (h k hk)
 unfold zcp
 simp only[Bool.not_eq_true',Bool.or_eq_false_iff,Bool.and_eq_false_iff,Bool.not_eq_false',decide_eq_false_iff_not]
 rw[e]
 refine⟨⟨⟨ho.1,by simp only;omega⟩,by simp only;omega⟩, ?_⟩
 by_cases h0:0<j
 ·right
  have:=zc6 hp j hj h0
  unfold zoZ
  rw[List.getElem?_eq_getElem (by omega)]
  rw[e]at this
  simpa using this
 ·left;omega
theorem zlY {s:St} (h:RightS s) {r:Req} (hm:Req.may r=true) (hN:s.num+1≤zaS) (hT:s.token+4≤zaS):
  ((zaR s r).2.held=[]∨(1≤(zaR s r).2.session∧(zaR s r).2.held=za3 (zaR s r).1.locks r.client))∧(0≤(zaR s r).2.session∧(zaR s r).2.session≤zaS)∧(0≤(zaR s r).2.ahead∧(zaR s r).2.ahead≤3):=by
 have hH:zaS=2305843009213693952:=rfl
 obtain⟨hc,_,hnm⟩:=zgf hm
 have hnum:=h.num
 cases h1:r.kind==1
 ·cases hf:zaE s.sess r.client with
  |none=>
   have hd:zaR s r=(s,⟨9,0,0,[]⟩):=by unfold zaR;rw[if_neg (by rw[h1];simp),hf]
   rw[hd]
   exact⟨.inl rfl,by simp only;omega,by simp only;omega⟩
  |some x=>
   have hxn:=(zbP.1 (h.sok x (List.mem_of_find?_eq_some hf)).1).2.1
   cases hx:x.num !=r.session
   ·rw[zmP h1 hf hx]
    have h1':=zgi h hf
    have hf1:(zaE (zbd s.sess r.client s.time).1 r.client).isSome=true:=by rw[zdL h hf,zfR (zgh h hf).1,hf];rfl
    split
    ·rename_i hk
     obtain⟨_,_,_,ta⟩:=zha (w:=r.kind==3) h1' (hnm hk) hc hf1 hT
     simp only at ta
     split
     ·exact⟨.inr ⟨hxn.1,rfl⟩,by simp only;omega,by simp only;omega⟩
     ·split
      ·exact⟨.inr ⟨hxn.1,rfl⟩,by simp only;omega,ta⟩
      ·exact⟨.inr ⟨hxn.1,rfl⟩,by simp only;omega,by simp only;omega⟩
    ·split
     ·split
      ·exact⟨.inr ⟨hxn.1,rfl⟩,by simp only;omega,by simp only;omega⟩
      ·exact⟨.inr ⟨hxn.1,rfl⟩,by simp only;omega,by simp only;omega⟩
     ·split
      ·exact⟨.inl rfl,by simp only;omega,by simp only;omega⟩
      ·exact⟨.inr ⟨hxn.1,rfl⟩,by simp only;omega,by simp only;omega⟩
   ·have hd:zaR s r=(s,⟨9,0,0,[]⟩):=by unfold zaR;rw[if_neg (by rw[h1];simp),hf];simp only;rw[if_pos hx]
    rw[hd]
    exact⟨.inl rfl,by simp only;omega,by simp only;omega⟩
 ·have hd:zaR s r=zbo s r.client:=by unfold zaR;rw[if_pos h1]
  rw[hd]
  unfold zbo
  cases hf:zaE s.sess r.client with
  |some x=>
   have hxn:=(zbP.1 (h.sok x (List.mem_of_find?_eq_some hf)).1).2.1
   exact⟨.inr ⟨hxn.1,rfl⟩,by simp only;omega,by simp only;omega⟩
  |none=>
   simp only
   split
   ·exact⟨.inl rfl,by simp only;omega,by simp only;omega⟩
   ·exact⟨.inr ⟨by simp only;omega,rfl⟩,by simp only;omega,by simp only;omega⟩
theorem zko {s:St} (h:RightS s) {r:Req} (hm:Req.may r=true) (hN:s.num+1≤zaS) (hT:s.token+4≤zaS):answerB ⟨r.client,r.seq,(zaR s r).2⟩=true:=by
 obtain⟨hc,hq,_⟩:=zgf hm
 have hd:=zfp h hm hN hT
 obtain⟨h1,h2,h3⟩:=zlY h hm hN hT
 have hcl:=zcC.1 hc
 have hcode:=hd.code
 have hrt:=hd.rt
 unfold answerB zcD
 simp only[Bool.and_eq_true,decide_eq_true_eq,Bool.not_eq_true',Bool.or_eq_false_iff,Bool.and_eq_false_iff,decide_eq_false_iff_not]
 refine⟨⟨⟨⟨hcl.1,hcl.2⟩,hq.1⟩,hq.2⟩,⟨by omega, ?_⟩, ?_⟩
 ·rcases h1 with e|⟨e1,e2⟩
  ·rw[e];exact⟨by simp, .inr (by simp)⟩
  ·refine⟨?_, .inl (by simp;omega)⟩
   rw[e2]
   unfold za3
   rw[List.length_map]
   have:=List.length_filter_le (fun k:Lk=>k.holder==r.client) (zaR s r).1.locks
   have:=hrt.ll
   omega
 ·rcases h1 with e|⟨e1,e2⟩
  ·rw[e];rfl
  ·rw[e2]
   exact ziO hrt.ls (fun k hk=>(hrt.lok k hk).1) _
set_option maxHeartbeats 2000000 in
theorem zoU (s:St) (h:Small s) (hr:RightS s) (r:Req) (hro:r.ok) (hdr:Req.may r=true→zcx (zaR s r).2):CallOK Tryz.prog 16 [.f (.agg s.lent), .f (.agg (r.enc.map C.d))]
  (fun x o=>x=[zmT (zba s r).1,zey (zba s r).2.1,rb (zba s r).2.2]∧o=[]):=by
 refine CallOK.nil ?_
 refine zac zaq mixed (T:=Ty) (n:=59) Tryz.func16 (c:=Tryz.f16.body.getD .skip) rfl Tryz.results16 Tryz.ntmps16 Tryz.call16 ?_
 simp only[Tryz.f16,Option.getD]
 have hcp:=ziS s h
 have hmr:=zgM r hro
 have hfr:=ziv s.memos hr.ms h.memos r.client r.seq
 have hla:=zrU s.memos hr.ms h.memos (fun m hm=>(h.held m hm).1) r.client
 repeat'(first|(with_reducible first|refine zaW 2 ?_|refine zaJ 2 ?_|refine zaK 2 ?_)|refine zu0 ?_|exact zd0|(with_reducible first|refine zab _ _ ?_)|refine zc (hcp) ?_|refine zg (hcp) ?_|(refine zaa ?_ ?_<;>intro hb)|(refine And.intro ?_ ?_;exact zI)|(refine And.intro ?_ ?_<;>intro hg)|exact zC|fail)
 refine za1 (zaX (Gh.sealF 2 3 (.own ⟨2,4,10⟩ 0 s.sess.length) ?_) ?_)
 ·exact zo0
 refine zf0 ?_
 refine zaX (Gh.sealF 2 4 (.own ⟨2,5,11⟩ 0 s.locks.length) ?_) ?_
 ·exact zo0
 refine zf0 ?_
 refine zaX (Gh.sealF 2 5 (.own ⟨2,6,12⟩ 0 s.memos.length) ?_) ?_
 ·exact zo0
 refine zf0 ?_
 cases hm:Req.may r
 ·rw[hm]at hmr
  have ha:zba s r=(s,⟨1,0,0,[]⟩,false):=by unfold zba;rw[hm];rfl
  rw[ha]
  repeat'(first|refine zq0 ?_|exact zd0|refine zc (hmr) ?_|refine zg (hmr) ?_|(refine zaa ?_ ?_<;>intro hb)|(refine And.intro ?_ ?_;exact zI)|(refine And.intro ?_ ?_<;>intro hg)|exact zC|fail)
  simp[zbe,zdd,zbn,zaV]
 ·rw[hm]at hmr
  have hdo:=zq5 s h hr r hm
  have hms:=zfo h r
  have hke:=zrV (zaR s r).1.memos (by rw[hms];exact hr.ms) (by rw[hms];exact h.memos) (by rw[hms];exact fun m hm=>(h.held m hm).1) ⟨r.client,r.seq,(zaR s r).2⟩ (hdr hm)
  cases f1:za8 s.memos r.client r.seq== -1
  ·cases f0:za8 s.memos r.client r.seq==0
   ·have ha:zba s r=({(zaR s r).1 with memos:=zdf (zaR s r).1.memos ⟨r.client,r.seq,(zaR s r).2⟩},(zaR s r).2,true):=by
     unfold zba
     rw[if_neg (by rw[hm];simp),if_neg (by simpa using f1),if_neg (by simpa using f0)]
    rw[ha]
    repeat'(first|refine zq (I f1 f0) ?_|exact zd (I f1 f0)|refine zc (hmr) ?_|refine zg (hmr) ?_|refine zc (hfr) ?_|refine zg (hfr) ?_|refine zc (hdo) ?_|refine zg (hdo) ?_|refine zc (hke) ?_|refine zg (hke) ?_|(refine zaa ?_ ?_<;>intro hb)|(refine And.intro ?_ ?_;exact zI)|(refine And.intro ?_ ?_<;>intro hg)|exact zC|fail)
    exact⟨rfl,⟨.inl rfl, .inl rfl, .inl rfl, .inl rfl, .inl rfl, .inr ⟨rfl,rfl,zan⟩,trivial⟩,⟨.inl rfl, .inl rfl, .inl rfl, .inl rfl,trivial⟩, .inl rfl,trivial⟩
   ·have ha:zba s r=(s,((zbb s.memos r.client).getD zcl).reply,false):=by
     unfold zba
     rw[if_neg (by rw[hm];simp),if_neg (by simpa using f1),if_pos (by simpa using f0)]
     cases zbb s.memos r.client<;>rfl
    rw[ha]
    repeat'(first|refine zq (I f1 f0) ?_|exact zd (I f1 f0)|refine zc (hmr) ?_|refine zg (hmr) ?_|refine zc (hfr) ?_|refine zg (hfr) ?_|refine zc (hla) ?_|refine zg (hla) ?_|(refine zaa ?_ ?_<;>intro hb)|(refine And.intro ?_ ?_;exact zI)|(refine And.intro ?_ ?_<;>intro hg)|exact zC|fail)
    simp[zbe,zdd,zbn,zaV]
  ·have ha:zba s r=(s,⟨0,0,0,[]⟩,false):=by
    unfold zba
    rw[if_neg (by rw[hm];simp),if_pos (by simpa using f1)]
   rw[ha]
   repeat'(first|refine zq f1 ?_|exact zd f1|refine zc (hmr) ?_|refine zg (hmr) ?_|refine zc (hfr) ?_|refine zg (hfr) ?_|(refine zaa ?_ ?_<;>intro hb)|(refine And.intro ?_ ?_;exact zI)|(refine And.intro ?_ ?_<;>intro hg)|exact zC|fail)
   simp[zbe,zdd,zbn,zaV]
theorem zkT {l:List Int} (h:lineB l=true):l.Nodup:=(zbx.1 h).2.2
theorem zp0 {l:List Sess}:zkp l []=l:=List.filter_eq_self.2 fun _ _=>rfl
abbrev zj2 (l:List Sess) (gone:List Int) (i:Nat):List Sess:=zkp l (gone.take i)
theorem zj3 {l:List Sess} {gone:List Int} {i:Nat} (hi:i<gone.length):zj2 l gone (i+1)=(zj2 l gone i).filter fun x=>x.client !=gone[i]:=by
 unfold zj2 zkp
 rw[List.filter_filter]
 congr 1
 funext x
 rw[←List.take_append_getElem hi]
 unfold hasI
 rw[List.any_append]
 simp only[List.any_cons,List.any_nil,Bool.or_false,Bool.not_or,bne]
 rw[Bool.and_comm]
theorem zop {l:List Sess} {gone:List Int} {i:Nat} (hi:i<gone.length) (hf:zaE (zj2 l gone i) gone[i]=none):zj2 l gone (i+1)=zj2 l gone i:=by
 rw[zj3 hi]
 refine List.filter_eq_self.2 fun x hx=> ?_
 have:=List.find?_eq_none.1 hf x hx
 simpa[bne]using this
set_option maxHeartbeats 2000000 in
theorem zj4 (s:St) (h:Small s) (hs:SL s.locks) (hnd:∀k∈s.locks,k.line.Nodup) (ht:0≤s.token∧s.token≤zaS) (gone:List Int) (hg:gone.length<2^30):
  CallOK Tryz.prog 61 [.f (zoV s), .f (al gone.length (zau gone))] (fun r o=>r=[zmT (za9 s gone)]∧o=[]):=by
 refine CallOK.nil ?_
 refine zac zaq mixed (T:=Ty) (n:=47) Tryz.func61 (c:=Tryz.f61.body.getD .skip) rfl Tryz.results61 Tryz.ntmps61 Tryz.call61 ?_
 simp only[Tryz.f61,Option.getD]
 have hH:zaS=2^61:=by decide
 have hdp:=zp3 s.locks hs h.locks (fun k hk=>⟨(h.line k hk).1,hnd k hk⟩) gone hg s.token (by omega)
 obtain⟨⟨g1,g2⟩,_⟩:=zcL gone s.token (s.locks.map (zam gone)) 0 (Int.le_refl _)
 have g1:0≤(zbX s.locks gone s.token).2:=g1
 have g2:(zbX s.locks gone s.token).2≤0+(s.locks.map (zam gone)).length:=g2
 rw[List.length_map]at g2
 have hw:IntKind.i64.wrap (s.token+(zbX s.locks gone s.token).2)=s.token+(zbX s.locks gone s.token).2:=wrap64 (by omega) (by have:=h.locks;omega)
 obtain⟨LD,hD⟩:∃D,D=(zbX s.locks gone s.token).1:=⟨_,rfl⟩
 obtain⟨g,hg0⟩:∃g,g=(zbX s.locks gone s.token).2:=⟨_,rfl⟩
 have hwi:za9 s gone=⟨s.time,s.num,s.token+g,zkp s.sess gone,LD,s.memos⟩:=by rw[hD,hg0];rfl
 rw[hwi]
 rw[←hD,←hg0]at hdp
 rw[←hg0]at hw
 repeat'(first|(with_reducible first|refine zaW 4 ?_|refine zaJ 4 ?_|refine zaK 4 ?_)|refine zu hw ?_|exact zd hw|(with_reducible first|refine zab _ _ ?_)|refine zc (hdp) ?_|refine zg (hdp) ?_|(refine zaa ?_ ?_<;>intro hb)|(refine And.intro ?_ ?_;exact zI)|(refine And.intro ?_ ?_<;>intro hg)|exact zC|fail)
 refine za1 (zaX (Gh.sealF 2 4 (.own ⟨2,5,7⟩ 0 LD.length) ?_) ?_)
 ·exact zo0
 refine zf0 ?_
 refine zaX (Gh.dropRow 2 5 rfl) ?_
 simp only[zY,Nat.reduceSub,Nat.reduceEqDiff,Nat.reduceAdd,Nat.reduceMul,Nat.reduceLeDiff,Nat.reduceLT,Nat.reduceBEq,reduceCtorEq]
 repeat'(first|refine zq0 ?_|exact zd0|(refine zaa ?_ ?_<;>intro hb)|(refine And.intro ?_ ?_;exact zI)|(refine And.intro ?_ ?_<;>intro hg)|exact zC|fail)
 rw[show(D.sl s.sess.length (zaI s.sess))=D.sl (zj2 s.sess gone 0).length (zaI (zj2 s.sess gone 0)) from by rw[show zj2 s.sess gone 0=s.sess from zp0]]
 refine zas (τ:=Nat) (fun i=>⟨[dd,al gone.length (zau gone), .one (.ptr ⟨2,0,1⟩ 0),dd, .one (.ptr ⟨4,0,1⟩ 0),dd,dd,ai i,dd,dd,dd,dd,dd,dd,dd,dd,dd,dd,dd,dd,dd,dd,dd,dd,dd,dd,dd,dd,dd,dd,dd,dd,dd,dd,dd,dd,dd,dd,dd,dd,dd,dd,dd,dd,dd,dd,dd],[(2,{next:=2,l:=[some {e:=1,var:=true,fz:=false,sz:=0,cells:=[di s.time,di s.num,di (s.token+g), .d (.sl (zj2 s.sess gone i).length (zaI (zj2 s.sess gone i))), .d (.sl LD.length (zaf LD)), .d (.sl s.memos.length (zaw s.memos))]},none,none,none,none,none,none]}),(4,{next:=2,l:=[some {e:=1,var:=true,fz:=false,sz:=0,cells:=[di 0,di 0,di 0, .d (.v (.slice none 0 0)), .d (.v (.slice none 0 0)), .d (.v (.slice none 0 0))]},none,none,none,none,none,none]}),(16,⟨2,[]⟩),(5,⟨2,[]⟩),(8,⟨2,[]⟩),(39,⟨2,[]⟩)]⟩)
  (fun i=>i≤gone.length) (fun _=>()) (fun i=>gone.length - i) 0
  (Gh.canon [2,4] [8,39] [] zK rfl rfl) (Nat.zero_le _) ?_
 intro i hi0 hF K hK
 refine zw ?_
 refine zaa (fun hlt=> ?_) (fun hge=> ?_)
 ·have hi:i<gone.length:=by simpa using hlt
  have hat:=zc7 hi
  have hwi:=zar hi (by omega)
  have hcl:(zj2 s.sess gone i).length<2^30:=Nat.lt_of_le_of_lt (List.length_filter_le ..) h.sess
  have hrc:=zot (zj2 s.sess gone i) hcl gone[i]
  cases hf:zaE (zj2 s.sess gone i) gone[i]with
  |none=>
   rw[hf]at hrc
   simp only[Option.isSome_none,Bool.false_eq_true,if_false]at hrc
   have hz:((6:Int)==0)=false:=rfl
   repeat'(first|refine zq (I hat (I hz (I @zah zca))) ?_|exact zd (I hat (I hz (I @zah zca)))|refine zc (hrc) ?_|refine zg (hrc) ?_|(refine zaa ?_ ?_<;>intro hb)|(refine And.intro ?_ ?_;exact zI)|(refine And.intro ?_ ?_<;>intro hg)|exact zC|fail)
   rw[←zop hi hf]
   exact hK _ (i+1) (Gh.canon [2,4] [] [] (zk hwi) rfl rfl) hi rfl (by omega)
  |some x=>
   rw[hf]at hrc
   simp only[Option.isSome_some,if_true]at hrc
   rw[←zj3 hi]at hrc
   have hz:((0:Int)==0)=true:=rfl
   repeat'(first|(with_reducible first|refine zaW 6 ?_|refine zaJ 6 ?_|refine zaK 6 ?_)|refine zu (I hat (I hz (I @zah zca))) ?_|exact zd (I hat (I hz (I @zah zca)))|(with_reducible first|refine zab _ _ ?_)|refine zc (hrc) ?_|refine zg (hrc) ?_|(refine zaa ?_ ?_<;>intro hb)|(refine And.intro ?_ ?_;exact zI)|(refine And.intro ?_ ?_<;>intro hg)|exact zC|fail)
   refine za1 (zaX (Gh.sealF 2 3 (.own ⟨2,4,2⟩ 0 (zj2 s.sess gone (i+1)).length) ?_) ?_)
   ·exact zo0
   refine zf0 ?_
   refine zaX (Gh.dropRow 2 4 rfl) ?_
   simp only[zY,Nat.reduceSub,Nat.reduceEqDiff,Nat.reduceAdd,Nat.reduceMul,Nat.reduceLeDiff,Nat.reduceLT,Nat.reduceBEq,reduceCtorEq]
   repeat'(first|refine zq0 ?_|exact zd0|(refine zaa ?_ ?_<;>intro hb)|(refine And.intro ?_ ?_;exact zI)|(refine And.intro ?_ ?_<;>intro hg)|exact zC|fail)
   exact hK _ (i+1) (Gh.canon [2,4] [] [] (zk hwi) rfl rfl) hi rfl (by omega)
 ·have hi:i=gone.length:=by
   have:¬(i:Int)<gone.length:=by simpa using hge
   omega
  subst hi
  have he:zj2 s.sess gone gone.length=zkp s.sess gone:=by unfold zj2;rw[List.take_length]
  rw[he]
  repeat'(first|refine zq0 ?_|exact zd0|(refine zaa ?_ ?_<;>intro hb)|(refine And.intro ?_ ?_;exact zI)|(refine And.intro ?_ ?_<;>intro hg)|exact zC|fail)
  simp[zbe,zdd,zbn,zaV]
theorem zeP {s:St} (hr:RightS s):∀k∈s.locks,k.line.Nodup:=fun k hk=>zkT (hr.lok k hk).2.2.1
set_option maxHeartbeats 2000000 in
theorem zkS (s:St) (h:Small s) (hr:RightS s) (time lease:Int):CallOK Tryz.prog 33 [.f (zoV s), .f (ai time), .f (ai lease)]
  (fun r o=>r=[zmT (zbi s time lease)]∧o=[]):=by
 refine zac zaq mixed (T:=Ty) (n:=26) Tryz.func33 (c:=Tryz.f33.body.getD .skip) rfl Tryz.results33 Tryz.ntmps33 Tryz.call33 ?_
 simp only[Tryz.f33,Option.getD]
 have h':Small {s with time:=zbR s time}:=⟨h.sess,h.locks,h.memos,h.line,h.held⟩
 have htm:0≤zbR s time∧zbR s time≤zaS:=by
  have:=hr.time
  unfold zbR
  split
  ·rename_i hc
   simp only[Bool.and_eq_true,decide_eq_true_eq]at hc
   omega
  ·exact this
 have hdu:=zr6 s.sess h.sess (zbR s time) (max lease 1) (fun x hx=>(zbP.1 (hr.sok x hx).1).2.2) htm
 have hwo:=zj4 {s with time:=zbR s time} h' hr.ls (fun k hk=>zeP hr k hk) hr.token (zhU s.sess (zbR s time) (max lease 1)) (ziU h _ _)
 have hav:zbi s time lease=za9 {s with time:=zbR s time} (zhU s.sess (zbR s time) (max lease 1)):=rfl
 rw[hav]
 cases ha:decide (time>s.time)&&decide (time≤2305843009213693952)
 ·have htp:zbR s time=s.time:=by unfold zbR;rw[show(decide (time>s.time)&&decide (time≤zaS))=false from ha];rfl
  rw[htp]at hdu hwo⊢
  repeat'(first|(with_reducible first|refine zab _ _ ?_|refine zaM ?_|refine zaN ?_)|rw[zak]|simp only[ha,zeB,zY,Int.reduceEq,Int.reduceBEq,Int.reduceBNe,Nat.reduceSub,Nat.reduceEqDiff,Nat.reduceAdd,Nat.reduceMul,Nat.reduceLeDiff,Nat.reduceLT,Nat.reduceBEq,reduceCtorEq]|((first|((try refine zaz ?_);apply zaC)|(apply zaB;intro _));(solve|exact(hdu)|exact(hwo)|(refine CallOK.le (hdu) ?_;exact zM)|(refine CallOK.le (hwo) ?_;exact zM)|fail);try case hn=>rfl)|refine zal ?_|refine zaa (fun hb=> ?_) (fun hb=> ?_)|(refine And.intro ?_ ?_;exact zI)|refine And.intro (fun hg=> ?_) (fun hg=> ?_)|exact zC|fail)
  rfl
 ·have htp:zbR s time=time:=by unfold zbR;rw[show(decide (time>s.time)&&decide (time≤zaS))=true from ha];rfl
  rw[htp]at hdu hwo⊢
  repeat'(first|(with_reducible first|refine zab _ _ ?_|refine zaM ?_|refine zaN ?_)|rw[zak]|simp only[ha,zeB,zY,Int.reduceEq,Int.reduceBEq,Int.reduceBNe,Nat.reduceSub,Nat.reduceEqDiff,Nat.reduceAdd,Nat.reduceMul,Nat.reduceLeDiff,Nat.reduceLT,Nat.reduceBEq,reduceCtorEq]|((first|((try refine zaz ?_);apply zaC)|(apply zaB;intro _));(solve|exact(hdu)|exact(hwo)|(refine CallOK.le (hdu) ?_;exact zM)|(refine CallOK.le (hwo) ?_;exact zM)|fail);try case hn=>rfl)|refine zal ?_|refine zaa (fun hb=> ?_) (fun hb=> ?_)|(refine And.intro ?_ ?_;exact zI)|refine And.intro (fun hg=> ?_) (fun hg=> ?_)|exact zC|fail)
  rfl
theorem ziB (s:St) (h:Small s) (c code ahead:Int):CallOK Tryz.prog 104 [.f (zoV s), .f (ai c), .f (ai code), .f (ai ahead)]
  (fun r o=>r=[zey ⟨code,((zaE s.sess c).getD zdH).num,ahead,za3 s.locks c⟩]∧o=[]):=by
 refine zac zaq mixed (T:=Ty) (n:=27) Tryz.func104 (c:=Tryz.f104.body.getD .skip) rfl Tryz.results104 Tryz.ntmps104 Tryz.call104 ?_
 simp only[Tryz.f104,Option.getD]
 have hfi:=zdE s.sess (by have:=h.sess;omega) c
 have hhe:=zp2 s.locks h.locks c
 repeat'(first|refine zq0 ?_|exact zd0|refine zc (hfi) ?_|refine zg (hfi) ?_|refine zc (hhe) ?_|refine zg (hhe) ?_|(refine zaa ?_ ?_<;>intro hb)|(refine And.intro ?_ ?_;exact zI)|(refine And.intro ?_ ?_<;>intro hg)|exact zC|fail)
 rfl
theorem zhH {s:St} (hr:RightS s) {c:Int} (hc:isClient c=true) (hf:zaE s.sess c=none) (he:((zbQ s.sess c (s.num+1) s.time).2 !=0)=false):
  (zbQ s.sess c (s.num+1) s.time).1.length≤s.sess.length+1∧((zaE (zbQ s.sess c (s.num+1) s.time).1 c).getD zdH).num=s.num+1:=by
 by_cases hN:s.num+1≤zaS
 ·rw[zkZ hr hc hN hf]at he⊢
  split at he
  ·cases he
  ·rename_i h5
   rw[if_neg h5]
   refine⟨?_, ?_⟩
   ·simp only[List.length_append,List.length_cons,List.length_take,List.length_drop];omega
   ·have h1:(s.sess.take (zdc s.sess c)).find? (fun x=>x.client==c)=none:=List.find?_eq_none.2 fun x hx=>List.find?_eq_none.1 hf x (List.mem_of_mem_take hx)
    simp only[zaE,List.find?_append,h1,Option.none_or,List.find?_cons,beq_self_eq_true,Option.getD_some]
 ·exfalso
  have:zbQ s.sess c (s.num+1) s.time=([],1):=by
   unfold zbQ
   rw[if_pos (by simp only[Bool.or_eq_true,decide_eq_true_eq];omega)]
  rw[this]at he
  cases he
set_option maxHeartbeats 2000000 in
theorem zoo (s:St) (h:Small s) (hr:RightS s) (c:Int) (hc:isClient c=true):CallOK Tryz.prog 101 [.f (zoV s), .f (ai c)]
  (fun r o=>r=[zmT (zbo s c).1,zey (zbo s c).2]∧o=[]):=by
 refine CallOK.nil ?_
 refine zac zaq mixed (T:=Ty) (n:=49) Tryz.func101 (c:=Tryz.f101.body.getD .skip) rfl Tryz.results101 Tryz.ntmps101 Tryz.call101 ?_
 simp only[Tryz.f101,Option.getD]
 have hfi:=zdE s.sess (by have:=h.sess;omega) c
 have hn:=hr.num
 have hH:zaS=2^61:=by decide
 have hw:IntKind.i64.wrap (s.num+1)=s.num+1:=wrap64 (by omega) (by omega)
 cases hf:zaE s.sess c with
 |some x=>
  have hto:=ziB s h c 7 0
  rw[hf]at hfi hto
  simp only[Option.isSome_some,Option.getD_some]at hfi hto
  have ho:zbo s c=(s,⟨7,x.num,0,za3 s.locks c⟩):=by unfold zbo;rw[hf]
  rw[ho]
  repeat'(first|refine zq0 ?_|exact zd0|refine zc (hfi) ?_|refine zg (hfi) ?_|refine zc (hto) ?_|refine zg (hto) ?_|(refine zaa ?_ ?_<;>intro hb)|(refine And.intro ?_ ?_;exact zI)|(refine And.intro ?_ ?_<;>intro hg)|exact zC|fail)
  simp[zbe,zdd,zbn,zaV]
 |none=>
  rw[hf]at hfi
  simp only[Option.isSome_none,Option.getD_none]at hfi
  have hop:=zp1 s.sess hr.ss h.sess c (s.num+1) s.time hc (by omega) hr.time hf (zdv hr)
  have ho:zbo s c=if((zbQ s.sess c (s.num+1) s.time).2 !=0)=true then(s,⟨(zbQ s.sess c (s.num+1) s.time).2,0,0,[]⟩)else
    ({s with sess:=(zbQ s.sess c (s.num+1) s.time).1,num:=s.num+1},⟨0,s.num+1,0,za3 s.locks c⟩):=by unfold zbo;rw[hf];simp only[bne_iff_ne]
  cases he:(zbQ s.sess c (s.num+1) s.time).2 !=0
  ·rw[he,if_neg (by simp)]at ho
   rw[ho]
   have hsm:Small {s with sess:=(zbQ s.sess c (s.num+1) s.time).1,num:=s.num+1}:=⟨by have:=(zhH hr hc hf he).1;have:=hr.sl;simp only;omega,h.locks,h.memos,h.line,h.held⟩
   have hto:=ziB {s with sess:=(zbQ s.sess c (s.num+1) s.time).1,num:=s.num+1} hsm c 0 0
   have hfo:((zaE (zbQ s.sess c (s.num+1) s.time).1 c).getD zdH).num=s.num+1:=(zhH hr hc hf he).2
   simp only[hfo]at hto
   repeat'(first|(with_reducible first|refine zaW 8 ?_|refine zaJ 8 ?_|refine zaK 8 ?_)|refine zu (I hw he) ?_|exact zd (I hw he)|(with_reducible first|refine zab _ _ ?_)|refine zc (hfi) ?_|refine zg (hfi) ?_|refine zc (hop) ?_|refine zg (hop) ?_|(refine zaa ?_ ?_<;>intro hb)|(refine And.intro ?_ ?_;exact zI)|(refine And.intro ?_ ?_<;>intro hg)|exact zC|fail)
   refine za1 (zaX (Gh.sealF 2 3 (.own ⟨2,4,7⟩ 0 (zbQ s.sess c (s.num+1) s.time).1.length) ?_) ?_)
   ·exact zo0
   refine zf0 ?_
   repeat'(first|refine zq hw ?_|exact zd hw|refine zc (hto) ?_|refine zg (hto) ?_|(refine zaa ?_ ?_<;>intro hb)|(refine And.intro ?_ ?_;exact zI)|(refine And.intro ?_ ?_<;>intro hg)|exact zC|fail)
   simp[zbe,zdd,zbn,zaV]
  ·rw[he,if_pos rfl]at ho
   rw[ho]
   repeat'(first|refine zq (I hw he) ?_|exact zd (I hw he)|refine zc (hfi) ?_|refine zg (hfi) ?_|refine zc (hop) ?_|refine zg (hop) ?_|(refine zaa ?_ ?_<;>intro hb)|(refine And.intro ?_ ?_;exact zI)|(refine And.intro ?_ ?_<;>intro hg)|exact zC|fail)
   simp[zbe,zdd,zbn,zaV]
theorem zmA {s:St} (hr:RightS s) {c:Int} {x:Sess} (hf:zaE s.sess c=some x):((zaE (zbd s.sess c s.time).1 c).getD zdH).num=x.num∧(zbd s.sess c s.time).1.length=s.sess.length:=by
 rw[zdL hr hf]
 refine⟨?_,by simp only[List.length_set]⟩
 simp only
 rw[←zj5 hr.ss hf]
 unfold zaE
 rw[List.find?_map,show((fun y:Sess=>y.client==c)∘zcG c s.time)=fun y:Sess=>y.client==c from by funext y;simp only[Function.comp,zcG];split<;>rfl]
 rw[show s.sess.find? (fun y:Sess=>y.client==c)=some x from hf]
 simp only[Option.map_some,Option.getD_some,zcG]
 split<;>rfl
theorem zmB {l:List Lk} {name:ByteArray} {c t:Int} {w:Bool} (hl:∀k∈l,k.line.length<2^30∧k.name.size<2^62) (hs:SL l) (hll:∀k∈l,k.line.length≤3) (hn:name.size<2^62):
  ∀k∈(zaG l name c t w).1,k.line.length<2^30∧k.name.size<2^62:=by
 intro k hk
 unfold zaG at hk
 cases hf:zcc l name with
 |none=>
  rw[hf]at hk
  simp only at hk
  split at hk
  ·cases hk
  ·rcases List.mem_append.1 hk with hk|hk
   ·exact hl k (List.mem_of_mem_take hk)
   ·rcases List.mem_cons.1 hk with rfl|hk
    ·exact⟨by simp,hn⟩
    ·exact hl k (List.mem_of_mem_drop hk)
 |some k0=>
  rw[hf]at hk
  simp only at hk
  obtain⟨⟨hi,he⟩,_⟩:=zcd hs hf
  have hk0:=hl k0 (he▸List.getElem_mem hi)
  have hk3:=hll k0 (he▸List.getElem_mem hi)
  split at hk
  ·cases hk
  ·split at hk
   ·cases hk
   ·split at hk
    ·exact hl k hk
    ·split at hk
     ·cases hk
     ·rcases List.mem_or_eq_of_mem_set hk with hk|rfl
      ·exact hl k hk
      ·refine⟨?_,hk0.2⟩
       simp only
       unfold zc3
       repeat' split
       all_goals simp
       all_goals omega
theorem zmC {l:List Lk} {name:ByteArray} {c t:Int} (hl:∀k∈l,k.line.length<2^30∧k.name.size<2^62) (hs:SL l):
  ∀k∈(zaZ l name c t).1,k.line.length<2^30∧k.name.size<2^62:=by
 intro k hk
 unfold zaZ at hk
 cases hf:zcc l name with
 |none=>rw[hf]at hk;cases hk
 |some k0=>
  rw[hf]at hk
  simp only at hk
  obtain⟨⟨hi,he⟩,_⟩:=zcd hs hf
  have hk0:=hl k0 (he▸List.getElem_mem hi)
  split at hk
  ·unfold zco at hk
   split at hk
   ·exact hl k (List.mem_of_mem_eraseIdx hk)
   ·rename_i hline
    rcases List.mem_or_eq_of_mem_set hk with hk|rfl
    ·exact hl k hk
    ·refine⟨?_,hk0.2⟩
     have:=hk0.1
     rw[hline,List.length_cons]at this
     simp only;omega
  ·split at hk
   ·rcases List.mem_or_eq_of_mem_set hk with hk|rfl
    ·exact hl k hk
    ·refine⟨?_,hk0.2⟩
     simp only
     unfold zce
     split
     ·exact hk0.1
     ·exact Nat.lt_of_le_of_lt (List.length_eraseIdx_le ..) hk0.1
   ·cases hk
theorem zmz {l:List Lk} {name:ByteArray} {c t:Int} {w:Bool} (h:((zaG l name c t w).2.2==10)=false):(zaG l name c t w).2.1=0:=by
 revert h
 unfold zaG
 cases zcc l name with
 |none=>simp only;split<;>intros<;>rfl
 |some k=>
  simp only
  repeat' split
  all_goals first|(intros;rfl)|(intro h;cases h)
set_option maxHeartbeats 8000000 in
theorem zpZ (s:St) (h:Small s) (hr:RightS s) (r:Req) (hro:r.ok) (hm:Req.may r=true):CallOK Tryz.prog 64 [.f (zoV s), .f (.agg (r.enc.map C.d))]
  (fun x o=>x=[zmT (zaR s r).1,zey (zaR s r).2]∧o=[]):=by
 refine CallOK.nil ?_
 refine zac zaq mixed (T:=Ty) (n:=147) Tryz.func64 (c:=Tryz.f64.body.getD .skip) rfl Tryz.results64 Tryz.ntmps64 Tryz.call64 ?_
 simp only[Tryz.f64,Option.getD]
 obtain⟨hc,_,hnm⟩:=zgf hm
 have hfi:=zdE s.sess (by have:=h.sess;omega) r.client
 have hT:=hr.token
 have hH:zaS=2^61:=by decide
 have hll:∀k∈s.locks,k.line.length<2^30:=fun k hk=>(h.line k hk).1
 have hl3:∀k∈s.locks,k.line.length≤3:=fun k hk=>(zbx.1 (hr.lok k hk).2.2.1).1
 have hlf:∀k∈s.locks,k.line.length<2^30∧k.line.Nodup:=fun k hk=>⟨hll k hk,zeP hr k hk⟩
 cases h1:r.kind==1
 ·cases hf:zaE s.sess r.client with
  |none=>
   rw[hf]at hfi
   simp only[Option.isSome_none,Option.getD_none]at hfi
   have hd:zaR s r=(s,⟨9,0,0,[]⟩):=by unfold zaR;rw[if_neg (by rw[h1];simp),hf]
   rw[hd]
   repeat'(first|refine zq h1 ?_|exact zd h1|refine zc (hfi) ?_|refine zg (hfi) ?_|(refine zaa ?_ ?_<;>intro hb)|(refine And.intro ?_ ?_;exact zI)|(refine And.intro ?_ ?_<;>intro hg)|exact zC|fail)
   all_goals simp[zbe,zdd,zbn,zaV]
  |some x=>
   rw[hf]at hfi
   simp only[Option.isSome_some,Option.getD_some]at hfi
   cases hx:x.num !=r.session
   ·have hrn:=zos s.sess hr.ss h.sess r.client s.time hr.time (by rw[hf];rfl)
    have hwt:IntKind.i64.wrap (s.token+1)=s.token+1:=wrap64 (by omega) (by omega)
    obtain⟨hrf,hrl⟩:=zmA hr hf
    obtain⟨S1,hS1⟩:∃S1,S1=(zbd s.sess r.client s.time).1:=⟨_,rfl⟩
    rw[←hS1]at hrf hrl
    have hsm:∀(t:Int) (L:List Lk),L.length<2^30→(∀k∈L,k.line.length<2^30∧k.name.size<2^62)→Small ⟨s.time,s.num,t,S1,L,s.memos⟩:=fun t L h1 h2=>⟨by simp only;have:=h.sess;omega,h1,h.memos,h2,h.held⟩
    have hto:∀(t:Int) (L:List Lk) (code ahead:Int),L.length<2^30→(∀k∈L,k.line.length<2^30∧k.name.size<2^62)→CallOK Tryz.prog 104 [.f (zoV ⟨s.time,s.num,t,S1,L,s.memos⟩), .f (ai r.client), .f (ai code), .f (ai ahead)]
      (fun y o=>y=[zey ⟨code,x.num,ahead,za3 L r.client⟩]∧o=[]):=fun t L code ahead h1 h2=>by
     have:=ziB ⟨s.time,s.num,t,S1,L,s.memos⟩ (hsm t L h1 h2) r.client code ahead
     simp only[hrf]at this
     exact this
    have hd0:zaR s r=if(r.kind==3||r.kind==4)=true then
      (if((zaG s.locks r.name r.client s.token (r.kind==3)).2.2==0)=true then(⟨s.time,s.num,s.token+1,S1,(zaG s.locks r.name r.client s.token (r.kind==3)).1,s.memos⟩,⟨(zaG s.locks r.name r.client s.token (r.kind==3)).2.2,x.num,0,za3 (zaG s.locks r.name r.client s.token (r.kind==3)).1 r.client⟩)
      else if((zaG s.locks r.name r.client s.token (r.kind==3)).2.2==10)=true then(⟨s.time,s.num,s.token,S1,(zaG s.locks r.name r.client s.token (r.kind==3)).1,s.memos⟩,⟨(zaG s.locks r.name r.client s.token (r.kind==3)).2.2,x.num,(zaG s.locks r.name r.client s.token (r.kind==3)).2.1,za3 (zaG s.locks r.name r.client s.token (r.kind==3)).1 r.client⟩)
      else(⟨s.time,s.num,s.token,S1,s.locks,s.memos⟩,⟨(zaG s.locks r.name r.client s.token (r.kind==3)).2.2,x.num,0,za3 s.locks r.client⟩))
     else if(r.kind==5)=true then
      (if((zaZ s.locks r.name r.client s.token).2.2==0)=true then(⟨s.time,s.num,s.token+(zaZ s.locks r.name r.client s.token).2.1,S1,(zaZ s.locks r.name r.client s.token).1,s.memos⟩,⟨(zaZ s.locks r.name r.client s.token).2.2,x.num,0,za3 (zaZ s.locks r.name r.client s.token).1 r.client⟩)
      else(⟨s.time,s.num,s.token,S1,s.locks,s.memos⟩,⟨(zaZ s.locks r.name r.client s.token).2.2,x.num,0,za3 s.locks r.client⟩))
     else if(r.kind==6)=true then(za9 ⟨s.time,s.num,s.token,S1,s.locks,s.memos⟩ [r.client],⟨0,0,0,[]⟩)
     else(⟨s.time,s.num,s.token,S1,s.locks,s.memos⟩,⟨0,x.num,0,za3 s.locks r.client⟩):=by
     rw[hS1]
     unfold zaR
     rw[if_neg (by rw[h1];simp),hf]
     simp only
     rw[if_neg (by rw[hx];simp)]
     split
     ·by_cases e0:(zaG s.locks r.name r.client s.token (r.kind==3)).2.2=0
      ·rw[if_pos e0,if_neg (by rw[e0];decide),if_pos (by simpa using e0)]
      ·by_cases e10:(zaG s.locks r.name r.client s.token (r.kind==3)).2.2=10
       ·rw[if_neg e0,if_pos e10,if_pos e10,if_neg (by simpa using e0),if_pos (by simpa using e10)]
       ·rw[if_neg e0,if_neg e10,if_neg e10,if_neg (by simpa using e0),if_neg (by simpa using e10)]
     ·split
      ·by_cases e0:(zaZ s.locks r.name r.client s.token).2.2=0
       ·rw[if_pos e0,if_pos (by simpa using e0)]
       ·rw[if_neg e0,if_neg (by simpa using e0)]
      ·rfl
    rw[←hS1]at hrn
    have htl:=ziP s.locks r.name r.client s.token (r.kind==3)
    have hfl:=ziQ s.locks r.name r.client s.token
    have hnl:=hr.ll
    have htn:=zmB (name:=r.name) (c:=r.client) (t:=s.token) (w:=r.kind==3) h.line hr.ls hl3 hro.2.2.2.2
    have hfn:=zmC (name:=r.name) (c:=r.client) (t:=s.token) h.line hr.ls
    have hta:=zp5 s.locks hr.ls h.locks hll r.name r.client s.token (by omega) hc (r.kind==3)
    have hfr:=zlS s.locks hr.ls h.locks hlf r.name r.client s.token (by omega)
    have htz:=zmz (l:=s.locks) (name:=r.name) (c:=r.client) (t:=s.token) (w:=r.kind==3)
    cases h3:r.kind==3
    ·rw[h3]at hta htl htn htz
     rw[h3,Bool.false_or]at hd0
     cases h4:r.kind==4
     ·rw[h4,if_neg (by simp)]at hd0
      cases h5:r.kind==5
      ·rw[h5,if_neg (by simp)]at hd0
       cases h6:r.kind==6
       ·rw[h6,if_neg (by simp)]at hd0
        rw[hd0]
        have ht1:=hto s.token s.locks 0 0 h.locks h.line
        repeat'(first|(with_reducible first|refine zaW 8 ?_|refine zaJ 8 ?_|refine zaK 8 ?_)|refine zu (I h1 (I hx (I h3 (I h4 (I h5 h6))))) ?_|exact zd (I h1 (I hx (I h3 (I h4 (I h5 h6)))))|(with_reducible first|refine zab _ _ ?_)|refine zc (hfi) ?_|refine zg (hfi) ?_|refine zc (hrn) ?_|refine zg (hrn) ?_|(refine zaa ?_ ?_<;>intro hb)|(refine And.intro ?_ ?_;exact zI)|(refine And.intro ?_ ?_<;>intro hg)|exact zC|fail)
        refine za1 (zaX (Gh.sealF 2 3 (.own ⟨2,4,7⟩ 0 S1.length) ?_) ?_)
        ·exact zo0
        refine zf0 ?_
        repeat'(first|refine zq (I h1 (I hx (I h3 (I h4 (I h5 h6))))) ?_|exact zd (I h1 (I hx (I h3 (I h4 (I h5 h6)))))|refine zc (ht1) ?_|refine zg (ht1) ?_|(refine zaa ?_ ?_<;>intro hb)|(refine And.intro ?_ ?_;exact zI)|(refine And.intro ?_ ?_<;>intro hg)|exact zC|fail)
        simp[zbe,zdd,zbn,zaV]
       ·rw[h6,if_pos rfl]at hd0
        rw[hd0]
        have hwo:=zj4 ⟨s.time,s.num,s.token,S1,s.locks,s.memos⟩ (hsm s.token s.locks h.locks h.line) hr.ls (fun k hk=>zeP hr k hk) hr.token [r.client] (by simp)
        repeat'(first|(with_reducible first|refine zaW 8 ?_|refine zaJ 8 ?_|refine zaK 8 ?_)|refine zu (I h1 (I hx (I h3 (I h4 (I h5 h6))))) ?_|exact zd (I h1 (I hx (I h3 (I h4 (I h5 h6)))))|(with_reducible first|refine zab _ _ ?_)|refine zc (hfi) ?_|refine zg (hfi) ?_|refine zc (hrn) ?_|refine zg (hrn) ?_|(refine zaa ?_ ?_<;>intro hb)|(refine And.intro ?_ ?_;exact zI)|(refine And.intro ?_ ?_<;>intro hg)|exact zC|fail)
        refine za1 (zaX (Gh.sealF 2 3 (.own ⟨2,4,7⟩ 0 S1.length) ?_) ?_)
        ·exact zo0
        refine zf0 ?_
        repeat'(first|refine zq (I h1 (I hx (I h3 (I h4 (I h5 h6))))) ?_|exact zd (I h1 (I hx (I h3 (I h4 (I h5 h6)))))|refine zc (hwo) ?_|refine zg (hwo) ?_|(refine zaa ?_ ?_<;>intro hb)|(refine And.intro ?_ ?_;exact zI)|(refine And.intro ?_ ?_<;>intro hg)|exact zC|fail)
        simp[zbe,zdd,zbn,zaV]
      ·rw[h5,if_pos rfl]at hd0
       have hgi:=ziR s.locks r.name r.client s.token
       generalize hT0:zaZ s.locks r.name r.client s.token=T at*
       cases e0:T.2.2==0
       ·rw[e0,if_neg (by simp)]at hd0
        rw[hd0]
        have ht1:=hto s.token s.locks T.2.2 0 h.locks h.line
        repeat'(first|(with_reducible first|refine zaW 8 ?_|refine zaJ 8 ?_|refine zaK 8 ?_)|refine zu (I h1 (I hx (I h3 (I h4 (I h5 e0))))) ?_|exact zd (I h1 (I hx (I h3 (I h4 (I h5 e0)))))|(with_reducible first|refine zab _ _ ?_)|refine zc (hfi) ?_|refine zg (hfi) ?_|refine zc (hrn) ?_|refine zg (hrn) ?_|(refine zaa ?_ ?_<;>intro hb)|(refine And.intro ?_ ?_;exact zI)|(refine And.intro ?_ ?_<;>intro hg)|exact zC|fail)
        refine za1 (zaX (Gh.sealF 2 3 (.own ⟨2,4,7⟩ 0 S1.length) ?_) ?_)
        ·exact zo0
        refine zf0 ?_
        repeat'(first|refine zq (I h1 (I hx (I h3 (I h4 (I h5 e0))))) ?_|exact zd (I h1 (I hx (I h3 (I h4 (I h5 e0)))))|refine zc (hfr) ?_|refine zg (hfr) ?_|refine zc (ht1) ?_|refine zg (ht1) ?_|(refine zaa ?_ ?_<;>intro hb)|(refine And.intro ?_ ?_;exact zI)|(refine And.intro ?_ ?_<;>intro hg)|exact zC|fail)
        simp[zbe,zdd,zbn,zaV]
       ·rw[e0,if_pos rfl]at hd0
        have hwf:IntKind.i64.wrap (s.token+T.2.1)=s.token+T.2.1:=wrap64 (by omega) (by omega)
        rw[hd0]
        have ht1:=hto (s.token+T.2.1) T.1 T.2.2 0 (by omega) hfn
        repeat'(first|(with_reducible first|refine zaW 8 ?_|refine zaJ 8 ?_|refine zaK 8 ?_)|refine zu (I h1 (I hx (I h3 (I h4 (I h5 e0))))) ?_|exact zd (I h1 (I hx (I h3 (I h4 (I h5 e0)))))|(with_reducible first|refine zab _ _ ?_)|refine zc (hfi) ?_|refine zg (hfi) ?_|refine zc (hrn) ?_|refine zg (hrn) ?_|(refine zaa ?_ ?_<;>intro hb)|(refine And.intro ?_ ?_;exact zI)|(refine And.intro ?_ ?_<;>intro hg)|exact zC|fail)
        refine za1 (zaX (Gh.sealF 2 3 (.own ⟨2,4,7⟩ 0 S1.length) ?_) ?_)
        ·exact zo0
        refine zf0 ?_
        repeat'(first|(with_reducible first|refine zaW 22 ?_|refine zaJ 22 ?_|refine zaK 22 ?_)|refine zu (I h1 (I hx (I h3 (I h4 (I h5 (I e0 hwf)))))) ?_|exact zd (I h1 (I hx (I h3 (I h4 (I h5 (I e0 hwf))))))|(with_reducible first|refine zab _ _ ?_)|refine zc (hfr) ?_|refine zg (hfr) ?_|(refine zaa ?_ ?_<;>intro hb)|(refine And.intro ?_ ?_;exact zI)|(refine And.intro ?_ ?_<;>intro hg)|exact zC|fail)
        refine za1 (zaX (Gh.sealF 2 4 (.own ⟨2,5,8⟩ 0 T.1.length) ?_) ?_)
        ·exact zo0
        refine zf0 ?_
        repeat'(first|refine zq (I h1 (I hx (I h3 (I h4 (I h5 (I e0 hwf)))))) ?_|exact zd (I h1 (I hx (I h3 (I h4 (I h5 (I e0 hwf))))))|refine zc (ht1) ?_|refine zg (ht1) ?_|(refine zaa ?_ ?_<;>intro hb)|(refine And.intro ?_ ?_;exact zI)|(refine And.intro ?_ ?_<;>intro hg)|exact zC|fail)
        simp[zbe,zdd,zbn,zaV]
     ·rw[h4,if_pos rfl]at hd0
      generalize hT0:zaG s.locks r.name r.client s.token false=T at*
      cases e0:T.2.2==0
      ·cases e10:T.2.2==10
       ·rw[e0,if_neg (by simp),e10,if_neg (by simp)]at hd0
        rw[hd0]
        have ht1:=hto s.token s.locks T.2.2 0 h.locks h.line
        have hz:=htz e10
        rw[hz]at hta
        repeat'(first|(with_reducible first|refine zaW 8 ?_|refine zaJ 8 ?_|refine zaK 8 ?_)|refine zu (I h1 (I hx (I h3 (I h4 (I e0 e10))))) ?_|exact zd (I h1 (I hx (I h3 (I h4 (I e0 e10)))))|(with_reducible first|refine zab _ _ ?_)|refine zc (hfi) ?_|refine zg (hfi) ?_|refine zc (hrn) ?_|refine zg (hrn) ?_|(refine zaa ?_ ?_<;>intro hb)|(refine And.intro ?_ ?_;exact zI)|(refine And.intro ?_ ?_<;>intro hg)|exact zC|fail)
        refine za1 (zaX (Gh.sealF 2 3 (.own ⟨2,4,7⟩ 0 S1.length) ?_) ?_)
        ·exact zo0
        refine zf0 ?_
        repeat'(first|refine zq (I h1 (I hx (I h3 (I h4 (I e0 (I e10 hwt)))))) ?_|exact zd (I h1 (I hx (I h3 (I h4 (I e0 (I e10 hwt))))))|refine zc (hta) ?_|refine zg (hta) ?_|refine zc (ht1) ?_|refine zg (ht1) ?_|(refine zaa ?_ ?_<;>intro hb)|(refine And.intro ?_ ?_;exact zI)|(refine And.intro ?_ ?_<;>intro hg)|exact zC|fail)
        simp[zbe,zdd,zbn,zaV]
       ·rw[e0,if_neg (by simp),e10,if_pos rfl]at hd0
        rw[hd0]
        have ht1:=hto s.token T.1 T.2.2 T.2.1 (by omega) htn
        repeat'(first|(with_reducible first|refine zaW 8 ?_|refine zaJ 8 ?_|refine zaK 8 ?_)|refine zu (I h1 (I hx (I h3 (I h4 (I e0 e10))))) ?_|exact zd (I h1 (I hx (I h3 (I h4 (I e0 e10)))))|(with_reducible first|refine zab _ _ ?_)|refine zc (hfi) ?_|refine zg (hfi) ?_|refine zc (hrn) ?_|refine zg (hrn) ?_|(refine zaa ?_ ?_<;>intro hb)|(refine And.intro ?_ ?_;exact zI)|(refine And.intro ?_ ?_<;>intro hg)|exact zC|fail)
        refine za1 (zaX (Gh.sealF 2 3 (.own ⟨2,4,7⟩ 0 S1.length) ?_) ?_)
        ·exact zo0
        refine zf0 ?_
        repeat'(first|(with_reducible first|refine zaW 16 ?_|refine zaJ 16 ?_|refine zaK 16 ?_)|refine zu (I h1 (I hx (I h3 (I h4 (I e0 (I e10 hwt)))))) ?_|exact zd (I h1 (I hx (I h3 (I h4 (I e0 (I e10 hwt))))))|(with_reducible first|refine zab _ _ ?_)|refine zc (hta) ?_|refine zg (hta) ?_|(refine zaa ?_ ?_<;>intro hb)|(refine And.intro ?_ ?_;exact zI)|(refine And.intro ?_ ?_<;>intro hg)|exact zC|fail)
        refine za1 (zaX (Gh.sealF 2 4 (.own ⟨2,5,8⟩ 0 T.1.length) ?_) ?_)
        ·exact zo0
        refine zf0 ?_
        repeat'(first|refine zq (I h1 (I hx (I h3 (I h4 (I e0 (I e10 hwt)))))) ?_|exact zd (I h1 (I hx (I h3 (I h4 (I e0 (I e10 hwt))))))|refine zc (ht1) ?_|refine zg (ht1) ?_|(refine zaa ?_ ?_<;>intro hb)|(refine And.intro ?_ ?_;exact zI)|(refine And.intro ?_ ?_<;>intro hg)|exact zC|fail)
        simp[zbe,zdd,zbn,zaV]
      ·rw[e0,if_pos rfl]at hd0
       rw[hd0]
       have ht1:=hto (s.token+1) T.1 T.2.2 0 (by omega) htn
       have hz:=htz (by have:T.2.2=0:=(by simpa using e0);rw[this];rfl)
       rw[hz]at hta
       repeat'(first|(with_reducible first|refine zaW 8 ?_|refine zaJ 8 ?_|refine zaK 8 ?_)|refine zu (I h1 (I hx (I h3 (I h4 e0)))) ?_|exact zd (I h1 (I hx (I h3 (I h4 e0))))|(with_reducible first|refine zab _ _ ?_)|refine zc (hfi) ?_|refine zg (hfi) ?_|refine zc (hrn) ?_|refine zg (hrn) ?_|(refine zaa ?_ ?_<;>intro hb)|(refine And.intro ?_ ?_;exact zI)|(refine And.intro ?_ ?_<;>intro hg)|exact zC|fail)
       refine za1 (zaX (Gh.sealF 2 3 (.own ⟨2,4,7⟩ 0 S1.length) ?_) ?_)
       ·exact zo0
       refine zf0 ?_
       repeat'(first|(with_reducible first|refine zaW 16 ?_|refine zaJ 16 ?_|refine zaK 16 ?_)|refine zu (I h1 (I hx (I h3 (I h4 (I e0 hwt))))) ?_|exact zd (I h1 (I hx (I h3 (I h4 (I e0 hwt)))))|(with_reducible first|refine zab _ _ ?_)|refine zc (hta) ?_|refine zg (hta) ?_|(refine zaa ?_ ?_<;>intro hb)|(refine And.intro ?_ ?_;exact zI)|(refine And.intro ?_ ?_<;>intro hg)|exact zC|fail)
       refine za1 (zaX (Gh.sealF 2 4 (.own ⟨2,5,8⟩ 0 T.1.length) ?_) ?_)
       ·exact zo0
       refine zf0 ?_
       repeat'(first|refine zq (I h1 (I hx (I h3 (I h4 (I e0 hwt))))) ?_|exact zd (I h1 (I hx (I h3 (I h4 (I e0 hwt)))))|refine zc (ht1) ?_|refine zg (ht1) ?_|(refine zaa ?_ ?_<;>intro hb)|(refine And.intro ?_ ?_;exact zI)|(refine And.intro ?_ ?_<;>intro hg)|exact zC|fail)
       simp[zbe,zdd,zbn,zaV]
    ·rw[h3]at hta htl htn htz
     rw[h3,Bool.true_or,if_pos rfl]at hd0
     generalize hT0:zaG s.locks r.name r.client s.token true=T at*
     cases e0:T.2.2==0
     ·cases e10:T.2.2==10
      ·rw[e0,if_neg (by simp),e10,if_neg (by simp)]at hd0
       rw[hd0]
       have ht1:=hto s.token s.locks T.2.2 0 h.locks h.line
       have hz:=htz e10
       rw[hz]at hta
       repeat'(first|(with_reducible first|refine zaW 8 ?_|refine zaJ 8 ?_|refine zaK 8 ?_)|refine zu (I h1 (I hx (I h3 (I e0 e10)))) ?_|exact zd (I h1 (I hx (I h3 (I e0 e10))))|(with_reducible first|refine zab _ _ ?_)|refine zc (hfi) ?_|refine zg (hfi) ?_|refine zc (hrn) ?_|refine zg (hrn) ?_|(refine zaa ?_ ?_<;>intro hb)|(refine And.intro ?_ ?_;exact zI)|(refine And.intro ?_ ?_<;>intro hg)|exact zC|fail)
       refine za1 (zaX (Gh.sealF 2 3 (.own ⟨2,4,7⟩ 0 S1.length) ?_) ?_)
       ·exact zo0
       refine zf0 ?_
       repeat'(first|refine zq (I h1 (I hx (I h3 (I e0 (I e10 hwt))))) ?_|exact zd (I h1 (I hx (I h3 (I e0 (I e10 hwt)))))|refine zc (hta) ?_|refine zg (hta) ?_|refine zc (ht1) ?_|refine zg (ht1) ?_|(refine zaa ?_ ?_<;>intro hb)|(refine And.intro ?_ ?_;exact zI)|(refine And.intro ?_ ?_<;>intro hg)|exact zC|fail)
       simp[zbe,zdd,zbn,zaV]
      ·rw[e0,if_neg (by simp),e10,if_pos rfl]at hd0
       rw[hd0]
       have ht1:=hto s.token T.1 T.2.2 T.2.1 (by omega) htn
       repeat'(first|(with_reducible first|refine zaW 8 ?_|refine zaJ 8 ?_|refine zaK 8 ?_)|refine zu (I h1 (I hx (I h3 (I e0 e10)))) ?_|exact zd (I h1 (I hx (I h3 (I e0 e10))))|(with_reducible first|refine zab _ _ ?_)|refine zc (hfi) ?_|refine zg (hfi) ?_|refine zc (hrn) ?_|refine zg (hrn) ?_|(refine zaa ?_ ?_<;>intro hb)|(refine And.intro ?_ ?_;exact zI)|(refine And.intro ?_ ?_<;>intro hg)|exact zC|fail)
       refine za1 (zaX (Gh.sealF 2 3 (.own ⟨2,4,7⟩ 0 S1.length) ?_) ?_)
       ·exact zo0
       refine zf0 ?_
       repeat'(first|(with_reducible first|refine zaW 16 ?_|refine zaJ 16 ?_|refine zaK 16 ?_)|refine zu (I h1 (I hx (I h3 (I e0 (I e10 hwt))))) ?_|exact zd (I h1 (I hx (I h3 (I e0 (I e10 hwt)))))|(with_reducible first|refine zab _ _ ?_)|refine zc (hta) ?_|refine zg (hta) ?_|(refine zaa ?_ ?_<;>intro hb)|(refine And.intro ?_ ?_;exact zI)|(refine And.intro ?_ ?_<;>intro hg)|exact zC|fail)
       refine za1 (zaX (Gh.sealF 2 4 (.own ⟨2,5,8⟩ 0 T.1.length) ?_) ?_)
       ·exact zo0
       refine zf0 ?_
       repeat'(first|refine zq (I h1 (I hx (I h3 (I e0 (I e10 hwt))))) ?_|exact zd (I h1 (I hx (I h3 (I e0 (I e10 hwt)))))|refine zc (ht1) ?_|refine zg (ht1) ?_|(refine zaa ?_ ?_<;>intro hb)|(refine And.intro ?_ ?_;exact zI)|(refine And.intro ?_ ?_<;>intro hg)|exact zC|fail)
       simp[zbe,zdd,zbn,zaV]
     ·rw[e0,if_pos rfl]at hd0
      rw[hd0]
      have ht1:=hto (s.token+1) T.1 T.2.2 0 (by omega) htn
      have hz:=htz (by have:T.2.2=0:=(by simpa using e0);rw[this];rfl)
      rw[hz]at hta
      repeat'(first|(with_reducible first|refine zaW 8 ?_|refine zaJ 8 ?_|refine zaK 8 ?_)|refine zu (I h1 (I hx (I h3 e0))) ?_|exact zd (I h1 (I hx (I h3 e0)))|(with_reducible first|refine zab _ _ ?_)|refine zc (hfi) ?_|refine zg (hfi) ?_|refine zc (hrn) ?_|refine zg (hrn) ?_|(refine zaa ?_ ?_<;>intro hb)|(refine And.intro ?_ ?_;exact zI)|(refine And.intro ?_ ?_<;>intro hg)|exact zC|fail)
      refine za1 (zaX (Gh.sealF 2 3 (.own ⟨2,4,7⟩ 0 S1.length) ?_) ?_)
      ·exact zo0
      refine zf0 ?_
      repeat'(first|(with_reducible first|refine zaW 16 ?_|refine zaJ 16 ?_|refine zaK 16 ?_)|refine zu (I h1 (I hx (I h3 (I e0 hwt)))) ?_|exact zd (I h1 (I hx (I h3 (I e0 hwt))))|(with_reducible first|refine zab _ _ ?_)|refine zc (hta) ?_|refine zg (hta) ?_|(refine zaa ?_ ?_<;>intro hb)|(refine And.intro ?_ ?_;exact zI)|(refine And.intro ?_ ?_<;>intro hg)|exact zC|fail)
      refine za1 (zaX (Gh.sealF 2 4 (.own ⟨2,5,8⟩ 0 T.1.length) ?_) ?_)
      ·exact zo0
      refine zf0 ?_
      repeat'(first|refine zq (I h1 (I hx (I h3 (I e0 hwt)))) ?_|exact zd (I h1 (I hx (I h3 (I e0 hwt))))|refine zc (ht1) ?_|refine zg (ht1) ?_|(refine zaa ?_ ?_<;>intro hb)|(refine And.intro ?_ ?_;exact zI)|(refine And.intro ?_ ?_<;>intro hg)|exact zC|fail)
      simp[zbe,zdd,zbn,zaV]
   ·have hd:zaR s r=(s,⟨9,0,0,[]⟩):=by unfold zaR;rw[if_neg (by rw[h1];simp),hf];simp only;rw[if_pos hx]
    rw[hd]
    repeat'(first|refine zq (I h1 hx) ?_|exact zd (I h1 hx)|refine zc (hfi) ?_|refine zg (hfi) ?_|(refine zaa ?_ ?_<;>intro hb)|(refine And.intro ?_ ?_;exact zI)|(refine And.intro ?_ ?_<;>intro hg)|exact zC|fail)
    all_goals simp[zbe,zdd,zbn,zaV]
 ·have hop:=zoo s h hr r.client hc
  have hd:zaR s r=zbo s r.client:=by unfold zaR;rw[if_pos h1]
  rw[hd]
  repeat'(first|refine zq h1 ?_|exact zd h1|refine zc (hfi) ?_|refine zg (hfi) ?_|refine zc (hop) ?_|refine zg (hop) ?_|(refine zaa ?_ ?_<;>intro hb)|(refine And.intro ?_ ?_;exact zI)|(refine And.intro ?_ ?_<;>intro hg)|exact zC|fail)
  all_goals simp[zbe,zdd,zbn,zaV]
def zcn (n:Int):Prop:=0≤n∧n<256
theorem zcB {n:Int} (h:zcn n):IntKind.i64.wrap n=n:=by have:=h;unfold zcn at this;exact wrap64 (by omega) (by omega)
theorem zb7 {n:Int} (h:0≤n) (k:Int):n.tmod k=n % k:=Int.tmod_eq_emod_of_nonneg h
def zso:List ByteArray:=[⟨#[97]⟩,⟨#[98]⟩,⟨#[99]⟩,⟨#[100]⟩,⟨#[107,101,121,45,49]⟩,⟨#[116,104,101,45,108,97,115,116,45,111,110,101]⟩]
def zge (n:Int):ByteArray:=(zso[(n % 6).toNat]?).getD .empty
theorem six (n:Int):n % 6=0∨n % 6=1∨n % 6=2∨n % 6=3∨n % 6=4∨n % 6=5:=by omega
theorem zmO (n:Int) (hn:zcn n):CallOK Tryz.prog 136 [.f (au n)] (fun r o=>r=[.one (.d (sD (zge n)))]∧o=[]):=by
 refine zac zaq mixed (T:=Ty) (n:=9) Tryz.func136 (c:=Tryz.f136.body.getD .skip) rfl Tryz.results136 Tryz.ntmps136 Tryz.call136 ?_
 simp only[Tryz.f136,Option.getD]
 have hw:=zcB hn
 have ht:=zb7 hn.1 6
 unfold zge
 rcases six n with h|h|h|h|h|h
 all_goals
  rw[h]at ht⊢
  repeat'(first|(with_reducible first|refine zab _ _ ?_|refine zaM ?_|refine zaN ?_)|rw[zak]|simp only[hw,ht,Int.reduceToNat,List.drop_succ_cons,List.drop_zero,zY,Int.reduceEq,Int.reduceBEq,Int.reduceBNe,Nat.reduceSub,Nat.reduceEqDiff,Nat.reduceAdd,Nat.reduceMul,Nat.reduceLeDiff,Nat.reduceLT,Nat.reduceBEq,reduceCtorEq]|refine zal ?_|refine zaa (fun hb=> ?_) (fun hb=> ?_)|(refine And.intro ?_ ?_;exact zI)|refine And.intro (fun hg=> ?_) (fun hg=> ?_)|exact zC|fail)
  rfl
def zdI (a:Int):Int:=1+a % 6
def zfN (a b:Int):Int:=if zdI a=1 then 0 else 1+b % 7
def zeS (a c:Int):ByteArray:=if(zdI a==3||zdI a==4||zdI a==5)=true then zge c else .empty
theorem zq2 (a b c:Int) (ha:zcn a) (hb:zcn b) (hc:zcn c):CallOK Tryz.prog 96 [.f (au a), .f (au b), .f (au c)] (fun r o=>r=[.agg [.d (iD (zdI a)), .d (iD (zfN a b)), .d (sD (zeS a c))]]∧o=[]):=by
 refine zac zaq mixed (T:=Ty) (n:=30) Tryz.func96 (c:=Tryz.f96.body.getD .skip) rfl Tryz.results96 Tryz.ntmps96 Tryz.call96 ?_
 simp only[Tryz.f96,Option.getD]
 have hnm:=zmO c hc
 have hwa:=zcB ha
 have hwb:=zcB hb
 have hta:=zb7 ha.1 6
 have htb:=zb7 hb.1 7
 have hws:IntKind.i64.wrap (1+b % 7)=1+b % 7:=wrap64 (by omega) (by omega)
 unfold zeS zfN zdI
 have w1:IntKind.i64.wrap 1=1:=rfl
 have w2:IntKind.i64.wrap 2=2:=rfl
 have w3:IntKind.i64.wrap 3=3:=rfl
 have w4:IntKind.i64.wrap 4=4:=rfl
 have w5:IntKind.i64.wrap 5=5:=rfl
 have w6:IntKind.i64.wrap 6=6:=rfl
 rcases six a with h|h|h|h|h|h
 all_goals
  rw[h]at hta⊢
  repeat'(first|(with_reducible first|refine zab _ _ ?_|refine zaM ?_|refine zaN ?_)|rw[zak]|simp only[hwa,hwb,hta,htb,hws,w1,w2,w3,w4,w5,w6,Int.reduceAdd,Int.reduceEq,Int.reduceBEq,zY,Int.reduceEq,Int.reduceBEq,Int.reduceBNe,Nat.reduceSub,Nat.reduceEqDiff,Nat.reduceAdd,Nat.reduceMul,Nat.reduceLeDiff,Nat.reduceLT,Nat.reduceBEq,reduceCtorEq]|((first|((try refine zaz ?_);apply zaC)|(apply zaB;intro _));(solve|exact(hnm)|(refine CallOK.le (hnm) ?_;exact zM)|fail);try case hn=>rfl)|refine zal ?_|refine zaa (fun hb=> ?_) (fun hb=> ?_)|(refine And.intro ?_ ?_;exact zI)|refine And.intro (fun hg=> ?_) (fun hg=> ?_)|exact zC|fail)
structure Act where
 time:Int
 client:Int
 seq:Int
 kind:Int
 session:Int
 name:Int
abbrev Act.enc (a:Act):List D:=[uD a.time,uD a.client,uD a.seq,uD a.kind,uD a.session,uD a.name]
abbrev ziL (l:List Act):List D:=l.flatMap Act.enc
def ziM (a:Act):Prop:=zcn a.time∧zcn a.client∧zcn a.seq∧zcn a.kind∧zcn a.session∧zcn a.name
theorem zq3 {l:List Act} {i:Nat} (hi:i<l.length):(ziL l).drop (i*6)=l[i].enc++(ziL (l.drop (i+1))):=zcz _ 6 l i hi fun _=>rfl
theorem zkY {l:List Act}:(ziL l).length=l.length*6:=zb3 _ 6 (fun _=>rfl) l
def zoT (c q k s n:Int):Req:=⟨c % 8,1+q,zdI k,zfN k s,zeS k n⟩
theorem zq4 (c q k s n:Int) (h1:zcn c) (h2:zcn q) (h3:zcn k) (h4:zcn s) (h5:zcn n):CallOK Tryz.prog 56 [.f (au c), .f (au q), .f (au k), .f (au s), .f (au n)] (fun r o=>r=[.agg ((zoT c q k s n).enc.map RO.d)]∧o=[]):=by
 refine zac zaq mixed (T:=Ty) (n:=22) Tryz.func56 (c:=Tryz.f56.body.getD .skip) rfl Tryz.results56 Tryz.ntmps56 Tryz.call56 ?_
 simp only[Tryz.f56,Option.getD]
 have hcm:=zq2 k s n h3 h4 h5
 have hwc:=zcB h1
 have hwq:=zcB h2
 have htc:=zb7 h1.1 8
 have hq1:IntKind.i64.wrap (1+q)=1+q:=by unfold zcn at h2;exact wrap64 (by omega) (by omega)
 repeat'(first|refine zq (I hwc (I hwq (I htc hq1))) ?_|exact zd (I hwc (I hwq (I htc hq1)))|refine zc (hcm) ?_|refine zg (hcm) ?_|(refine zaa ?_ ?_<;>intro hb)|(refine And.intro ?_ ?_;exact zI)|(refine And.intro ?_ ?_<;>intro hg)|exact zC|fail)
 rfl
theorem zhR (l:List Memo) (hl:l.length<2^62) (c:Int):CallOK Tryz.prog 42 [.f (al l.length (zaw l)), .f (ai c)]
  (fun r o=>r=[.agg (((zbb l c).getD zcl).enc.map RO.d),rb (zbb l c).isSome]∧o=[]):=by
 refine CallOK.nil ?_
 refine zac zaq mixed (T:=Ty) (n:=25) Tryz.func42 (c:=Tryz.f42.body.getD .skip) rfl Tryz.results42 Tryz.ntmps42 Tryz.call42 ?_
 simp only[Tryz.f42,Option.getD]
 repeat'(first|refine zq0 ?_|exact zd0|(refine zaa ?_ ?_<;>intro hb)|(refine And.intro ?_ ?_;exact zI)|(refine And.intro ?_ ?_<;>intro hg)|exact zC|fail)
 refine zas (τ:=Nat) (fun i=>⟨[al l.length (zaw l),ai c,dd,dd, .one (.ptr ⟨4,0,1⟩ 0),dd,ai i,dd,dd,dd,dd,dd,dd,dd,dd,dd,dd,dd,dd,dd,dd,dd,dd,dd,dd],[(4,{next:=2,l:=[some {e:=1,var:=true,fz:=false,sz:=0,cells:=[di 0,di 0,di 0,di 0,di 0, .d (.v (.slice none 0 0))]},none,none,none,none,none,none]})]⟩)
  (fun i=>i≤l.length) (fun i=>zbb (l.drop i) c) (fun i=>l.length - i) 0
  (Gh.canon [4] [] [] zK rfl rfl) (Nat.zero_le _) ?_
 intro i hi0 hF K hK
 rw[List.drop_zero]at hF
 refine zw ?_
 refine zaa (fun hlt=> ?_) (fun hge=> ?_)
 ·have hi:i<l.length:=by simpa using hlt
  have hat:=zb0 hi
  have hw:=zar hi hl
  have hq:zbb (l.drop i) c=if(l[i].client==c)=true then some l[i]else zbb (l.drop (i+1)) c:=by
   unfold zbb
   rw[List.drop_eq_getElem_cons hi,List.find?_cons]
   cases l[i].client==c<;>rfl
  rw[hq]at hF
  repeat'(first|refine zq (I hat (I @zan zca)) ?_|exact zd (I hat (I @zan zca))|(refine zaa ?_ ?_<;>intro hb)|(refine And.intro ?_ ?_;exact zI)|(refine And.intro ?_ ?_<;>intro hg)|exact zC|fail)
  ·rw[if_pos hb]at hF
   rw[←hF]
   simp[zbe,zdd,zbn,zaV]
  ·rw[if_neg (by rw[hb];simp)]at hq
   exact hK _ (i+1) (Gh.canon [4] [] [] (zk hw) rfl rfl) hi hq.symm (by omega)
 ·have hi:i=l.length:=by
   have:¬(i:Int)<l.length:=by simpa using hge
   omega
  rw[hi,List.drop_length]at hF
  have hF:none=zbb l c:=hF
  rw[←hF]
  repeat'(first|refine zq0 ?_|exact zd0|(refine zaa ?_ ?_<;>intro hb)|(refine And.intro ?_ ?_;exact zI)|(refine And.intro ?_ ?_<;>intro hg)|exact zC|fail)
  simp[zbe,zdd,zbn,zaV,zcl]
def zg1 (s:St) (a:Act):Req:=
 let r:=zoT a.client (a.seq % 6) a.kind a.session a.name
 let b1:=(zaE s.sess r.client).isSome&&decide (a.session % 8>0)&&(r.kind !=1)
 let b2:= !(zaE s.sess r.client).isSome&&decide (a.session % 4>0)
 ⟨r.client,if decide (a.seq % 5>0)=true then(if(zbb s.memos r.client).isSome=true then((zbb s.memos r.client).getD zcl).seq+1 else 1)else r.seq,
  if b2=true then 1 else r.kind,if b2=true then 0 else if b1=true then((zaE s.sess r.client).getD zdH).num else r.session,if b2=true then .empty else r.name⟩
set_option maxHeartbeats 4000000 in
theorem zlX (s:St) (h:Small s) (hr:RightS s) (a:Act) (ha:ziM a):CallOK Tryz.prog 30 [.f (.agg s.lent), .f (.agg (a.enc.map C.d))] (fun r o=>r=[.agg ((zg1 s a).enc.map RO.d)]∧o=[]):=by
 refine zac zaq mixed (T:=Ty) (n:=76) Tryz.func30 (c:=Tryz.f30.body.getD .skip) rfl Tryz.results30 Tryz.ntmps30 Tryz.call30 ?_
 simp only[Tryz.f30,Option.getD]
 obtain⟨_,h1,h2,h3,h4,h5⟩:=ha
 have hrq:=zq4 a.client (a.seq % 6) a.kind a.session a.name h1 (by unfold zcn;omega) h3 h4 h5
 generalize hN:zoT a.client (a.seq % 6) a.kind a.session a.name=r at*
 have hla:=zhR s.memos (by have:=h.memos;omega) r.client
 have hfi:=zdE s.sess (by have:=h.sess;omega) r.client
 have ht6:=zb7 h2.1 6
 have ht5:=zb7 h2.1 5
 have ht8:=zb7 h4.1 8
 have ht4:=zb7 h4.1 4
 have hwm:IntKind.i64.wrap (((zbb s.memos r.client).getD zcl).seq+1)=((zbb s.memos r.client).getD zcl).seq+1:=by
  have hb:0≤((zbb s.memos r.client).getD zcl).seq∧((zbb s.memos r.client).getD zcl).seq≤zaS:=by
   cases hf:zbb s.memos r.client with
   |none=>decide
   |some m=>
    have:=(zcJ (hr.mok m (List.mem_of_find?_eq_some hf))).2.1
    simp only[Option.getD_some];omega
  have hH:zaS=2305843009213693952:=rfl
  exact wrap64 (by omega) (by omega)
 have hR:zg1 s a=⟨r.client,if decide (a.seq % 5>0)=true then(if(zbb s.memos r.client).isSome=true then((zbb s.memos r.client).getD zcl).seq+1 else 1)else r.seq,
  if(!(zaE s.sess r.client).isSome&&decide (a.session % 4>0))=true then 1 else r.kind,if(!(zaE s.sess r.client).isSome&&decide (a.session % 4>0))=true then 0 else if((zaE s.sess r.client).isSome&&decide (a.session % 8>0)&&(r.kind !=1))=true then((zaE s.sess r.client).getD zdH).num else r.session,
  if(!(zaE s.sess r.client).isSome&&decide (a.session % 4>0))=true then .empty else r.name⟩:=by unfold zg1;rw[hN]
 generalize zg1 s a=R at hR⊢
 repeat'(first|refine zq (I ht6 (I ht5 (I ht8 (I ht4 hwm)))) ?_|exact zd (I ht6 (I ht5 (I ht8 (I ht4 hwm))))|refine zc (hrq) ?_|refine zg (hrq) ?_|refine zc (hla) ?_|refine zg (hla) ?_|refine zc (hfi) ?_|refine zg (hfi) ?_|(refine zaa ?_ ?_<;>intro hb)|(refine And.intro ?_ ?_;exact zI)|(refine And.intro ?_ ?_<;>intro hg)|exact zC|fail)
 all_goals clear hrq hla hfi ht6 ht5 ht8 ht4 hwm hN h hr h1 h2 h3 h4 h5
 all_goals subst hR
 all_goals simp only[*,if_true,Bool.false_eq_true,if_false]
end Go.Proofs.YtngleemijkaeoaaGreat
