import Derived.Test.YtngleemijkaeoaaGreatR
namespace Go.Proofs.YtngleemijkaeoaaGreat
open Go.Pk
set_option maxRecDepth 100000
set_option linter.unusedSimpArgs false
set_option linter.unusedVariables false
theorem zm8 {s:St} {r:Req} {x:Sess} (h1:(r.kind==1)=false) (hf:zaC s.sess r.client=some x) (hx:(x.num !=r.session)=false):
  zaV s r=if(r.kind==3||r.kind==4)=true then
  (if((zaH s.locks r.name r.client s.token (r.kind==3)).2.2==0)=true then(⟨s.time,s.num,s.token+1,(zbf s.sess r.client s.time).1,(zaH s.locks r.name r.client s.token (r.kind==3)).1,s.memos⟩,⟨(zaH s.locks r.name r.client s.token (r.kind==3)).2.2,x.num,0,za7 (zaH s.locks r.name r.client s.token (r.kind==3)).1 r.client⟩)
  else if((zaH s.locks r.name r.client s.token (r.kind==3)).2.2==10)=true then(⟨s.time,s.num,s.token,(zbf s.sess r.client s.time).1,(zaH s.locks r.name r.client s.token (r.kind==3)).1,s.memos⟩,⟨(zaH s.locks r.name r.client s.token (r.kind==3)).2.2,x.num,(zaH s.locks r.name r.client s.token (r.kind==3)).2.1,za7 (zaH s.locks r.name r.client s.token (r.kind==3)).1 r.client⟩)
  else(⟨s.time,s.num,s.token,(zbf s.sess r.client s.time).1,s.locks,s.memos⟩,⟨(zaH s.locks r.name r.client s.token (r.kind==3)).2.2,x.num,0,za7 s.locks r.client⟩))
 else if(r.kind==5)=true then
  (if((za2 s.locks r.name r.client s.token).2.2==0)=true then(⟨s.time,s.num,s.token+(za2 s.locks r.name r.client s.token).2.1,(zbf s.sess r.client s.time).1,(za2 s.locks r.name r.client s.token).1,s.memos⟩,⟨(za2 s.locks r.name r.client s.token).2.2,x.num,0,za7 (za2 s.locks r.name r.client s.token).1 r.client⟩)
  else(⟨s.time,s.num,s.token,(zbf s.sess r.client s.time).1,s.locks,s.memos⟩,⟨(za2 s.locks r.name r.client s.token).2.2,x.num,0,za7 s.locks r.client⟩))
 else if(r.kind==6)=true then(zbd ⟨s.time,s.num,s.token,(zbf s.sess r.client s.time).1,s.locks,s.memos⟩ [r.client],⟨0,0,0,[]⟩)
 else(⟨s.time,s.num,s.token,(zbf s.sess r.client s.time).1,s.locks,s.memos⟩,⟨0,x.num,0,za7 s.locks r.client⟩):=by
 unfold zaV
 rw[if_neg (by rw[h1];simp),hf]
 simp only
 rw[if_neg (by rw[hx];simp)]
 split
 ·by_cases e0:(zaH s.locks r.name r.client s.token (r.kind==3)).2.2=0
  ·rw[if_pos e0,if_neg (by rw[e0];decide),if_pos (by simpa using e0)]
  ·by_cases e10:(zaH s.locks r.name r.client s.token (r.kind==3)).2.2=10
   ·rw[if_neg e0,if_pos e10,if_pos e10,if_neg (by simpa using e0),if_pos (by simpa using e10)]
   ·rw[if_neg e0,if_neg e10,if_neg e10,if_neg (by simpa using e0),if_neg (by simpa using e10)]
 ·split
  ·by_cases e0:(za2 s.locks r.name r.client s.token).2.2=0
   ·rw[if_pos e0,if_pos (by simpa using e0)]
   ·rw[if_neg e0,if_neg (by simpa using e0)]
  ·rfl
theorem zg6 {s:St} (h:Small s) (r:Req):(zaV s r).1.memos=s.memos:=by
 unfold zaV
 split
 ·unfold zbr
  split
  ·rfl
  ·split<;>rfl
 ·split
  ·rfl
  ·split
   ·rfl
   ·simp only
    repeat' split
    all_goals rfl
theorem zg7 {b:ByteArray} (h:nameP b=true):b.size≤12:=by
 unfold nameP at h
 simp only[Bool.and_eq_true,decide_eq_true_eq]at h
 omega
theorem zm9 {r:Reply} (h:zcC r=true):zcl r:=by
 unfold zcC at h
 simp only[Bool.and_eq_true,Bool.not_eq_true',Bool.or_eq_false_iff,decide_eq_false_iff_not]at h
 obtain⟨⟨_,h1,_⟩,h2⟩:=h
 refine⟨by omega,fun g hg=> ?_⟩
 obtain⟨j,hj,rfl⟩:=List.getElem_of_mem hg
 have:=zb4.1 h2 j hj
 unfold zcp at this
 simp only[Bool.not_eq_true',Bool.or_eq_false_iff,Bool.not_eq_false']at this
 have:=zg7 this.1.1.1
 omega
theorem zg8:∀{l:List Int} {a b:Int},l.Pairwise (·<·)→(∀x∈l,a≤x∧x<b)→(l.length:Int)≤max (b - a) 0
 |[],a,b,_,_=>by simp;omega
 |x::l,a,b,h,hb=>by
  have h':=List.pairwise_cons.1 h
  have hx:=hb x (List.mem_cons_self ..)
  have:=zg8 (a:=x+1) (b:=b) h'.2 (fun y hy=>⟨by have:=h'.1 y hy;omega,(hb y (List.mem_cons_of_mem _ hy)).2⟩)
  simp only[List.length_cons];omega
theorem zcI {m:Memo} (h:answerB m=true):(0≤m.client∧m.client<8)∧(1≤m.seq∧m.seq≤zaT)∧zcC m.reply=true:=by
 unfold answerB at h
 simp only[Bool.and_eq_true,decide_eq_true_eq]at h
 exact⟨⟨h.1.1.1.1,h.1.1.1.2⟩,⟨h.1.1.2,h.1.2⟩,h.2⟩
theorem zbJ {s:St} (h:RightS s):Small s:=by
 refine⟨by have:=h.sl;omega,by have:=h.ll;omega, ?_,fun k hk=> ?_,fun m hm=>zm9 (zcI (h.mok m hm)).2.2⟩
 ·have:=zg8 (a:=0) (b:=8) (znf.1 h.ms) (fun x hx=>by
   obtain⟨m,hm,rfl⟩:=List.mem_map.1 hx
   exact(zcI (h.mok m hm)).1)
  rw[List.length_map]at this
  omega
 ·obtain⟨a,_,b,_⟩:=h.lok k hk
  have h1:=(zbB.1 b).1
  have h2:=zg7 (zb7.1 a).1
  omega
theorem ziO {l:List Lk} (hl:l.length<2^30) (hn:∀k∈l,k.name.size<2^62) (c:Int) (a b d:Int):zcl ⟨a,b,d,za7 l c⟩:=by
 refine⟨?_,fun g hg=> ?_⟩
 ·unfold za7
  rw[List.length_map]
  exact Nat.lt_of_le_of_lt (List.length_filter_le ..) hl
 ·unfold za7 at hg
  obtain⟨k,hk,rfl⟩:=List.mem_map.1 hg
  exact hn k (List.mem_filter.1 hk).1
theorem zna (s:St) (r:Req):(zaV s r).2.held=[]∨(zaV s r).2.held=za7 (zaV s r).1.locks r.client:=by
 unfold zaV
 split
 ·unfold zbr
  split
  ·exact .inr rfl
  ·split
   ·exact .inl rfl
   ·exact .inr rfl
 ·split
  ·exact .inl rfl
  ·split
   ·exact .inl rfl
   ·simp only
    repeat' split
    all_goals first|exact .inr rfl|exact .inl rfl
theorem zfq {s:St} (h:RightS s) {r:Req} (hm:Req.may r=true) (hN:s.num+1≤zaT) (hT:s.token+4≤zaT):zcl (zaV s r).2:=by
 have hs:=zbJ (zfr h hm hN hT).rt
 rcases zna s r with e|e
 ·exact⟨by rw[e];simp,fun g hg=>by rw[e]at hg;cases hg⟩
 ·have:=ziO hs.locks (fun k hk=>(hs.line k hk).2) r.client 0 0 0
  unfold zcl at this⊢
  rw[e]
  exact this
theorem ziP {l:List Lk} (hs:SL l) (h:∀k∈l,zmj k=true) (c:Int):zbq (zcp (za7 l c)) 0 (za7 l c)=true:=by
 have hp:(za7 l c).Pairwise fun a b=>zdh a.name b.name=true:=by
  unfold za7
  rw[List.pairwise_map]
  exact List.Pairwise.sublist (List.filter_sublist ..) hs
 rw[zb4]
 intro j hj
 rw[Nat.zero_add]
 have hm:∃k∈l,(za7 l c)[j]=⟨k.name,k.token⟩:=by
  have:=List.getElem_mem hj
  unfold za7 at this
  obtain⟨k,hk,e⟩:=List.mem_map.1 this
  exact⟨k,(List.mem_filter.1 hk).1,e.symm⟩
 obtain⟨k,hk,e⟩:=hm
 have ho:=zb7.1 (h k hk)
 unfold zcp
 simp only[Bool.not_eq_true',Bool.or_eq_false_iff,Bool.and_eq_false_iff,Bool.not_eq_false',decide_eq_false_iff_not]
 rw[e]
 refine⟨⟨⟨ho.1,by simp only;omega⟩,by simp only;omega⟩, ?_⟩
 by_cases h0:0<j
 ·right
  have:=zdb hp j hj h0
  unfold zpo
  rw[List.getElem?_eq_getElem (by omega)]
  rw[e]at this
  simpa using this
 ·left;omega
theorem zmb {s:St} (h:RightS s) {r:Req} (hm:Req.may r=true) (hN:s.num+1≤zaT) (hT:s.token+4≤zaT):
  ((zaV s r).2.held=[]∨(1≤(zaV s r).2.session∧(zaV s r).2.held=za7 (zaV s r).1.locks r.client))∧(0≤(zaV s r).2.session∧(zaV s r).2.session≤zaT)∧(0≤(zaV s r).2.ahead∧(zaV s r).2.ahead≤3):=by
 have hH:zaT=2305843009213693952:=rfl
 obtain⟨hc,_,hnm⟩:=zgg hm
 have hnum:=h.num
 cases h1:r.kind==1
 ·cases hf:zaC s.sess r.client with
  |none=>
   have hd:zaV s r=(s,⟨9,0,0,[]⟩):=by unfold zaV;rw[if_neg (by rw[h1];simp),hf]
   rw[hd]
   exact⟨.inl rfl,by simp only;omega,by simp only;omega⟩
  |some x=>
   have hxn:=(zb2.1 (h.sok x (List.mem_of_find?_eq_some hf)).1).2.1
   cases hx:x.num !=r.session
   ·rw[zm8 h1 hf hx]
    have h1':=zgj h hf
    have hf1:(zaC (zbf s.sess r.client s.time).1 r.client).isSome=true:=by rw[zdK h hf,zfW (zgi h hf).1,hf];rfl
    split
    ·rename_i hk
     obtain⟨_,_,_,ta⟩:=zha (w:=r.kind==3) h1' (hnm hk) hc hf1 hT
     simp only at ta
     split
     ·exact⟨.inr ⟨hxn.1,rfl⟩,by simp only;omega,by simp only;omega⟩
     ·split
      ·exact⟨.inr ⟨hxn.1,rfl⟩,by simp only;omega,ta⟩
      ·exact⟨.inr ⟨hxn.1,rfl⟩,by simp only;omega,by simp only;omega⟩
    ·split
     ·split
      ·exact⟨.inr ⟨hxn.1,rfl⟩,by simp only;omega,by simp only;omega⟩
      ·exact⟨.inr ⟨hxn.1,rfl⟩,by simp only;omega,by simp only;omega⟩
     ·split
      ·exact⟨.inl rfl,by simp only;omega,by simp only;omega⟩
      ·exact⟨.inr ⟨hxn.1,rfl⟩,by simp only;omega,by simp only;omega⟩
   ·have hd:zaV s r=(s,⟨9,0,0,[]⟩):=by unfold zaV;rw[if_neg (by rw[h1];simp),hf];simp only;rw[if_pos hx]
    rw[hd]
    exact⟨.inl rfl,by simp only;omega,by simp only;omega⟩
 ·have hd:zaV s r=zbr s r.client:=by unfold zaV;rw[if_pos h1]
  rw[hd]
  unfold zbr
  cases hf:zaC s.sess r.client with
  |some x=>
   have hxn:=(zb2.1 (h.sok x (List.mem_of_find?_eq_some hf)).1).2.1
   exact⟨.inr ⟨hxn.1,rfl⟩,by simp only;omega,by simp only;omega⟩
  |none=>
   simp only
   split
   ·exact⟨.inl rfl,by simp only;omega,by simp only;omega⟩
   ·exact⟨.inr ⟨by simp only;omega,rfl⟩,by simp only;omega,by simp only;omega⟩
theorem zks {s:St} (h:RightS s) {r:Req} (hm:Req.may r=true) (hN:s.num+1≤zaT) (hT:s.token+4≤zaT):answerB ⟨r.client,r.seq,(zaV s r).2⟩=true:=by
 obtain⟨hc,hq,_⟩:=zgg hm
 have hd:=zfr h hm hN hT
 obtain⟨h1,h2,h3⟩:=zmb h hm hN hT
 have hcl:=zcB.1 hc
 have hcode:=hd.code
 have hrt:=hd.rt
 unfold answerB zcC
 simp only[Bool.and_eq_true,decide_eq_true_eq,Bool.not_eq_true',Bool.or_eq_false_iff,Bool.and_eq_false_iff,decide_eq_false_iff_not]
 refine⟨⟨⟨⟨hcl.1,hcl.2⟩,hq.1⟩,hq.2⟩,⟨by omega, ?_⟩, ?_⟩
 ·rcases h1 with e|⟨e1,e2⟩
  ·rw[e];exact⟨by simp, .inr (by simp)⟩
  ·refine⟨?_, .inl (by simp;omega)⟩
   rw[e2]
   unfold za7
   rw[List.length_map]
   have:=List.length_filter_le (fun k:Lk=>k.holder==r.client) (zaV s r).1.locks
   have:=hrt.ll
   omega
 ·rcases h1 with e|⟨e1,e2⟩
  ·rw[e];rfl
  ·rw[e2]
   exact ziP hrt.ls (fun k hk=>(hrt.lok k hk).1) _
set_option maxHeartbeats 2000000 in
theorem zpl (s:St) (h:Small s) (hr:RightS s) (r:Req) (hro:r.ok) (hdr:Req.may r=true→zcl (zaV s r).2):CallOK Tryz.prog 16 [.f (.agg s.lent), .f (.agg (r.enc.map C.d))]
  (fun x o=>x=[znc (za6 s r).1,zez (za6 s r).2.1,rb (za6 s r).2.2]∧o=[]):=by
 refine CallOK.nil ?_
 refine zac zar mixed (T:=Ty) (n:=59) Tryz.func16 (c:=Tryz.f16.body.getD .skip) rfl Tryz.results16 Tryz.ntmps16 Tryz.call16 ?_
 simp only[Tryz.f16,Option.getD]
 have hcp:=ziT s h
 have hmr:=zgO r hro
 have hfr:=zix s.memos hr.ms h.memos r.client r.seq
 have hla:=zse s.memos hr.ms h.memos (fun m hm=>(h.held m hm).1) r.client
 repeat'(first|(with_reducible first|refine zaZ 2 ?_|refine zaK 2 ?_|refine zaL 2 ?_)|refine zu0 ?_|exact zd0|(with_reducible first|refine zab _ _ ?_)|refine zc (hcp) ?_|refine zg (hcp) ?_|(refine zaa ?_ ?_<;>intro hb)|(refine And.intro ?_ ?_;exact zI)|(refine And.intro ?_ ?_<;>intro hg)|exact zC|fail)
 refine za3 (za0 (Gh.sealF 2 3 (.own ⟨2,4,10⟩ 0 s.sess.length) ?_) ?_)
 ·exact zo0
 refine zf0 ?_
 refine za0 (Gh.sealF 2 4 (.own ⟨2,5,11⟩ 0 s.locks.length) ?_) ?_
 ·exact zo0
 refine zf0 ?_
 refine za0 (Gh.sealF 2 5 (.own ⟨2,6,12⟩ 0 s.memos.length) ?_) ?_
 ·exact zo0
 refine zf0 ?_
 cases hm:Req.may r
 ·rw[hm]at hmr
  have ha:za6 s r=(s,⟨1,0,0,[]⟩,false):=by unfold za6;rw[hm];rfl
  rw[ha]
  repeat'(first|refine zq0 ?_|exact zd0|refine zc (hmr) ?_|refine zg (hmr) ?_|(refine zaa ?_ ?_<;>intro hb)|(refine And.intro ?_ ?_;exact zI)|(refine And.intro ?_ ?_<;>intro hg)|exact zC|fail)
  simp[zbg,zdg,zbp,zaY]
 ·rw[hm]at hmr
  have hdo:=zrw s h hr r hm
  have hms:=zg6 h r
  have hke:=zsf (zaV s r).1.memos (by rw[hms];exact hr.ms) (by rw[hms];exact h.memos) (by rw[hms];exact fun m hm=>(h.held m hm).1) ⟨r.client,r.seq,(zaV s r).2⟩ (hdr hm)
  cases f1:zbc s.memos r.client r.seq== -1
  ·cases f0:zbc s.memos r.client r.seq==0
   ·have ha:za6 s r=({(zaV s r).1 with memos:=zdJ (zaV s r).1.memos ⟨r.client,r.seq,(zaV s r).2⟩},(zaV s r).2,true):=by
     unfold za6
     rw[if_neg (by rw[hm];simp),if_neg (by simpa using f1),if_neg (by simpa using f0)]
    rw[ha]
    repeat'(first|refine zq (I f1 f0) ?_|exact zd (I f1 f0)|refine zc (hmr) ?_|refine zg (hmr) ?_|refine zc (hfr) ?_|refine zg (hfr) ?_|refine zc (hdo) ?_|refine zg (hdo) ?_|refine zc (hke) ?_|refine zg (hke) ?_|(refine zaa ?_ ?_<;>intro hb)|(refine And.intro ?_ ?_;exact zI)|(refine And.intro ?_ ?_<;>intro hg)|exact zC|fail)
    exact⟨rfl,⟨.inl rfl, .inl rfl, .inl rfl, .inl rfl, .inl rfl, .inr ⟨rfl,rfl,zaj⟩,trivial⟩,⟨.inl rfl, .inl rfl, .inl rfl, .inl rfl,trivial⟩, .inl rfl,trivial⟩
   ·have ha:za6 s r=(s,((zbe s.memos r.client).getD zcm).reply,false):=by
     unfold za6
     rw[if_neg (by rw[hm];simp),if_neg (by simpa using f1),if_pos (by simpa using f0)]
     cases zbe s.memos r.client<;>rfl
    rw[ha]
    repeat'(first|refine zq (I f1 f0) ?_|exact zd (I f1 f0)|refine zc (hmr) ?_|refine zg (hmr) ?_|refine zc (hfr) ?_|refine zg (hfr) ?_|refine zc (hla) ?_|refine zg (hla) ?_|(refine zaa ?_ ?_<;>intro hb)|(refine And.intro ?_ ?_;exact zI)|(refine And.intro ?_ ?_<;>intro hg)|exact zC|fail)
    simp[zbg,zdg,zbp,zaY]
  ·have ha:za6 s r=(s,⟨0,0,0,[]⟩,false):=by
    unfold za6
    rw[if_neg (by rw[hm];simp),if_pos (by simpa using f1)]
   rw[ha]
   repeat'(first|refine zq f1 ?_|exact zd f1|refine zc (hmr) ?_|refine zg (hmr) ?_|refine zc (hfr) ?_|refine zg (hfr) ?_|(refine zaa ?_ ?_<;>intro hb)|(refine And.intro ?_ ?_;exact zI)|(refine And.intro ?_ ?_<;>intro hg)|exact zC|fail)
   simp[zbg,zdg,zbp,zaY]
theorem zkX {l:List Int} (h:lineB l=true):l.Nodup:=(zbB.1 h).2.2
theorem zqp {l:List Sess}:zkt l []=l:=List.filter_eq_self.2 fun _ _=>rfl
abbrev zj2 (l:List Sess) (gone:List Int) (i:Nat):List Sess:=zkt l (gone.take i)
theorem zj3 {l:List Sess} {gone:List Int} {i:Nat} (hi:i<gone.length):zj2 l gone (i+1)=(zj2 l gone i).filter fun x=>x.client !=gone[i]:=by
 unfold zj2 zkt
 rw[List.filter_filter]
 congr 1
 funext x
 rw[←List.take_append_getElem hi]
 unfold hasI
 rw[List.any_append]
 simp only[List.any_cons,List.any_nil,Bool.or_false,Bool.not_or,bne]
 rw[Bool.and_comm]
theorem zoG {l:List Sess} {gone:List Int} {i:Nat} (hi:i<gone.length) (hf:zaC (zj2 l gone i) gone[i]=none):zj2 l gone (i+1)=zj2 l gone i:=by
 rw[zj3 hi]
 refine List.filter_eq_self.2 fun x hx=> ?_
 have:=List.find?_eq_none.1 hf x hx
 simpa[bne]using this
set_option maxHeartbeats 2000000 in
theorem zj4 (s:St) (h:Small s) (hs:SL s.locks) (hnd:∀k∈s.locks,k.line.Nodup) (ht:0≤s.token∧s.token≤zaT) (gone:List Int) (hg:gone.length<2^30):
  CallOK Tryz.prog 61 [.f (zpm s), .f (al gone.length (zat gone))] (fun r o=>r=[znc (zbd s gone)]∧o=[]):=by
 refine CallOK.nil ?_
 refine zac zar mixed (T:=Ty) (n:=47) Tryz.func61 (c:=Tryz.f61.body.getD .skip) rfl Tryz.results61 Tryz.ntmps61 Tryz.call61 ?_
 simp only[Tryz.f61,Option.getD]
 have hH:zaT=2^61:=by decide
 have hdp:=zqs s.locks hs h.locks (fun k hk=>⟨(h.line k hk).1,hnd k hk⟩) gone hg s.token (by omega)
 obtain⟨⟨g1,g2⟩,_⟩:=zcL gone s.token (s.locks.map (zaq gone)) 0 (Int.le_refl _)
 have g1:0≤(zbW s.locks gone s.token).2:=g1
 have g2:(zbW s.locks gone s.token).2≤0+(s.locks.map (zaq gone)).length:=g2
 rw[List.length_map]at g2
 have hw:IntKind.i64.wrap (s.token+(zbW s.locks gone s.token).2)=s.token+(zbW s.locks gone s.token).2:=wrap64 (by omega) (by have:=h.locks;omega)
 obtain⟨LD,hD⟩:∃D,D=(zbW s.locks gone s.token).1:=⟨_,rfl⟩
 obtain⟨g,hg0⟩:∃g,g=(zbW s.locks gone s.token).2:=⟨_,rfl⟩
 have hwi:zbd s gone=⟨s.time,s.num,s.token+g,zkt s.sess gone,LD,s.memos⟩:=by rw[hD,hg0];rfl
 rw[hwi]
 rw[←hD,←hg0]at hdp
 rw[←hg0]at hw
 repeat'(first|(with_reducible first|refine zaZ 4 ?_|refine zaK 4 ?_|refine zaL 4 ?_)|refine zu hw ?_|exact zd hw|(with_reducible first|refine zab _ _ ?_)|refine zc (hdp) ?_|refine zg (hdp) ?_|(refine zaa ?_ ?_<;>intro hb)|(refine And.intro ?_ ?_;exact zI)|(refine And.intro ?_ ?_<;>intro hg)|exact zC|fail)
 refine za3 (za0 (Gh.sealF 2 4 (.own ⟨2,5,7⟩ 0 LD.length) ?_) ?_)
 ·exact zo0
 refine zf0 ?_
 refine za0 (Gh.dropRow 2 5 rfl) ?_
 simp only[zY,Nat.reduceSub,Nat.reduceEqDiff,Nat.reduceAdd,Nat.reduceMul,Nat.reduceLeDiff,Nat.reduceLT,Nat.reduceBEq,reduceCtorEq]
 repeat'(first|refine zq0 ?_|exact zd0|(refine zaa ?_ ?_<;>intro hb)|(refine And.intro ?_ ?_;exact zI)|(refine And.intro ?_ ?_<;>intro hg)|exact zC|fail)
 rw[show(D.sl s.sess.length (zaF s.sess))=D.sl (zj2 s.sess gone 0).length (zaF (zj2 s.sess gone 0)) from by rw[show zj2 s.sess gone 0=s.sess from zqp]]
 refine zao (τ:=Nat) (fun i=>⟨[dd,al gone.length (zat gone), .one (.ptr ⟨2,0,1⟩ 0),dd, .one (.ptr ⟨4,0,1⟩ 0),dd,dd,ai i,dd,dd,dd,dd,dd,dd,dd,dd,dd,dd,dd,dd,dd,dd,dd,dd,dd,dd,dd,dd,dd,dd,dd,dd,dd,dd,dd,dd,dd,dd,dd,dd,dd,dd,dd,dd,dd,dd,dd],[(2,{next:=2,l:=[some {e:=1,var:=true,fz:=false,sz:=0,cells:=[di s.time,di s.num,di (s.token+g), .d (.sl (zj2 s.sess gone i).length (zaF (zj2 s.sess gone i))), .d (.sl LD.length (zah LD)), .d (.sl s.memos.length (zav s.memos))]},none,none,none,none,none,none]}),(4,{next:=2,l:=[some {e:=1,var:=true,fz:=false,sz:=0,cells:=[di 0,di 0,di 0, .d (.v (.slice none 0 0)), .d (.v (.slice none 0 0)), .d (.v (.slice none 0 0))]},none,none,none,none,none,none]}),(16,⟨2,[]⟩),(5,⟨2,[]⟩),(8,⟨2,[]⟩),(39,⟨2,[]⟩)]⟩)
  (fun i=>i≤gone.length) (fun _=>()) (fun i=>gone.length - i) 0
  (Gh.canon [2,4] [8,39] [] zK rfl rfl) (Nat.zero_le _) ?_
 intro i hi0 hF K hK
 refine zw ?_
 refine zaa (fun hlt=> ?_) (fun hge=> ?_)
 ·have hi:i<gone.length:=by simpa using hlt
  have hat:=zcx hi
  have hwi:=zan hi (by omega)
  have hcl:(zj2 s.sess gone i).length<2^30:=Nat.lt_of_le_of_lt (List.length_filter_le ..) h.sess
  have hrc:=zoK (zj2 s.sess gone i) hcl gone[i]
  cases hf:zaC (zj2 s.sess gone i) gone[i]with
  |none=>
   rw[hf]at hrc
   simp only[Option.isSome_none,Bool.false_eq_true,if_false]at hrc
   have hz:((6:Int)==0)=false:=rfl
   repeat'(first|refine zq (I hat (I hz (I @zaf zca))) ?_|exact zd (I hat (I hz (I @zaf zca)))|refine zc (hrc) ?_|refine zg (hrc) ?_|(refine zaa ?_ ?_<;>intro hb)|(refine And.intro ?_ ?_;exact zI)|(refine And.intro ?_ ?_<;>intro hg)|exact zC|fail)
   rw[←zoG hi hf]
   exact hK _ (i+1) (Gh.canon [2,4] [] [] (zk hwi) rfl rfl) hi rfl (by omega)
  |some x=>
   rw[hf]at hrc
   simp only[Option.isSome_some,if_true]at hrc
   rw[←zj3 hi]at hrc
   have hz:((0:Int)==0)=true:=rfl
   repeat'(first|(with_reducible first|refine zaZ 6 ?_|refine zaK 6 ?_|refine zaL 6 ?_)|refine zu (I hat (I hz (I @zaf zca))) ?_|exact zd (I hat (I hz (I @zaf zca)))|(with_reducible first|refine zab _ _ ?_)|refine zc (hrc) ?_|refine zg (hrc) ?_|(refine zaa ?_ ?_<;>intro hb)|(refine And.intro ?_ ?_;exact zI)|(refine And.intro ?_ ?_<;>intro hg)|exact zC|fail)
   refine za3 (za0 (Gh.sealF 2 3 (.own ⟨2,4,2⟩ 0 (zj2 s.sess gone (i+1)).length) ?_) ?_)
   ·exact zo0
   refine zf0 ?_
   refine za0 (Gh.dropRow 2 4 rfl) ?_
   simp only[zY,Nat.reduceSub,Nat.reduceEqDiff,Nat.reduceAdd,Nat.reduceMul,Nat.reduceLeDiff,Nat.reduceLT,Nat.reduceBEq,reduceCtorEq]
   repeat'(first|refine zq0 ?_|exact zd0|(refine zaa ?_ ?_<;>intro hb)|(refine And.intro ?_ ?_;exact zI)|(refine And.intro ?_ ?_<;>intro hg)|exact zC|fail)
   exact hK _ (i+1) (Gh.canon [2,4] [] [] (zk hwi) rfl rfl) hi rfl (by omega)
 ·have hi:i=gone.length:=by
   have:¬(i:Int)<gone.length:=by simpa using hge
   omega
  subst hi
  have he:zj2 s.sess gone gone.length=zkt s.sess gone:=by unfold zj2;rw[List.take_length]
  rw[he]
  repeat'(first|refine zq0 ?_|exact zd0|(refine zaa ?_ ?_<;>intro hb)|(refine And.intro ?_ ?_;exact zI)|(refine And.intro ?_ ?_<;>intro hg)|exact zC|fail)
  simp[zbg,zdg,zbp,zaY]
theorem zeP {s:St} (hr:RightS s):∀k∈s.locks,k.line.Nodup:=fun k hk=>zkX (hr.lok k hk).2.2.1
set_option maxHeartbeats 2000000 in
theorem zkW (s:St) (h:Small s) (hr:RightS s) (time lease:Int):CallOK Tryz.prog 33 [.f (zpm s), .f (ai time), .f (ai lease)]
  (fun r o=>r=[znc (zbk s time lease)]∧o=[]):=by
 refine zac zar mixed (T:=Ty) (n:=26) Tryz.func33 (c:=Tryz.f33.body.getD .skip) rfl Tryz.results33 Tryz.ntmps33 Tryz.call33 ?_
 simp only[Tryz.f33,Option.getD]
 have h':Small {s with time:=zb8 s time}:=⟨h.sess,h.locks,h.memos,h.line,h.held⟩
 have htm:0≤zb8 s time∧zb8 s time≤zaT:=by
  have:=hr.time
  unfold zb8
  split
  ·rename_i hc
   simp only[Bool.and_eq_true,decide_eq_true_eq]at hc
   omega
  ·exact this
 have hdu:=zsq s.sess h.sess (zb8 s time) (max lease 1) (fun x hx=>(zb2.1 (hr.sok x hx).1).2.2) htm
 have hwo:=zj4 {s with time:=zb8 s time} h' hr.ls (fun k hk=>zeP hr k hk) hr.token (zhU s.sess (zb8 s time) (max lease 1)) (ziV h _ _)
 have hav:zbk s time lease=zbd {s with time:=zb8 s time} (zhU s.sess (zb8 s time) (max lease 1)):=rfl
 rw[hav]
 cases ha:decide (time>s.time)&&decide (time≤2305843009213693952)
 ·have htp:zb8 s time=s.time:=by unfold zb8;rw[show(decide (time>s.time)&&decide (time≤zaT))=false from ha];rfl
  rw[htp]at hdu hwo⊢
  repeat'(first|(with_reducible first|refine zab _ _ ?_|refine zaP ?_|refine zaQ ?_)|rw[zak]|simp only[ha,zeC,zY,Int.reduceEq,Int.reduceBEq,Int.reduceBNe,Nat.reduceSub,Nat.reduceEqDiff,Nat.reduceAdd,Nat.reduceMul,Nat.reduceLeDiff,Nat.reduceLT,Nat.reduceBEq,reduceCtorEq]|((first|((try refine zaz ?_);apply zaD)|(apply zaB;intro _));(solve|exact(hdu)|exact(hwo)|(refine CallOK.le (hdu) ?_;exact zM)|(refine CallOK.le (hwo) ?_;exact zM)|fail);try case hn=>rfl)|refine zam ?_|refine zaa (fun hb=> ?_) (fun hb=> ?_)|(refine And.intro ?_ ?_;exact zI)|refine And.intro (fun hg=> ?_) (fun hg=> ?_)|exact zC|fail)
  rfl
 ·have htp:zb8 s time=time:=by unfold zb8;rw[show(decide (time>s.time)&&decide (time≤zaT))=true from ha];rfl
  rw[htp]at hdu hwo⊢
  repeat'(first|(with_reducible first|refine zab _ _ ?_|refine zaP ?_|refine zaQ ?_)|rw[zak]|simp only[ha,zeC,zY,Int.reduceEq,Int.reduceBEq,Int.reduceBNe,Nat.reduceSub,Nat.reduceEqDiff,Nat.reduceAdd,Nat.reduceMul,Nat.reduceLeDiff,Nat.reduceLT,Nat.reduceBEq,reduceCtorEq]|((first|((try refine zaz ?_);apply zaD)|(apply zaB;intro _));(solve|exact(hdu)|exact(hwo)|(refine CallOK.le (hdu) ?_;exact zM)|(refine CallOK.le (hwo) ?_;exact zM)|fail);try case hn=>rfl)|refine zam ?_|refine zaa (fun hb=> ?_) (fun hb=> ?_)|(refine And.intro ?_ ?_;exact zI)|refine And.intro (fun hg=> ?_) (fun hg=> ?_)|exact zC|fail)
  rfl
theorem ziB (s:St) (h:Small s) (c code ahead:Int):CallOK Tryz.prog 104 [.f (zpm s), .f (ai c), .f (ai code), .f (ai ahead)]
  (fun r o=>r=[zez ⟨code,((zaC s.sess c).getD zdI).num,ahead,za7 s.locks c⟩]∧o=[]):=by
 refine zac zar mixed (T:=Ty) (n:=27) Tryz.func104 (c:=Tryz.f104.body.getD .skip) rfl Tryz.results104 Tryz.ntmps104 Tryz.call104 ?_
 simp only[Tryz.f104,Option.getD]
 have hfi:=zcK s.sess (by have:=h.sess;omega) c
 have hhe:=zqr s.locks h.locks c
 repeat'(first|refine zq0 ?_|exact zd0|refine zc (hfi) ?_|refine zg (hfi) ?_|refine zc (hhe) ?_|refine zg (hhe) ?_|(refine zaa ?_ ?_<;>intro hb)|(refine And.intro ?_ ?_;exact zI)|(refine And.intro ?_ ?_<;>intro hg)|exact zC|fail)
 rfl
theorem zhF {s:St} (hr:RightS s) {c:Int} (hc:isClient c=true) (hf:zaC s.sess c=none) (he:((zbR s.sess c (s.num+1) s.time).2 !=0)=false):
  (zbR s.sess c (s.num+1) s.time).1.length≤s.sess.length+1∧((zaC (zbR s.sess c (s.num+1) s.time).1 c).getD zdI).num=s.num+1:=by
 by_cases hN:s.num+1≤zaT
 ·rw[zk3 hr hc hN hf]at he⊢
  split at he
  ·cases he
  ·rename_i h5
   rw[if_neg h5]
   refine⟨?_, ?_⟩
   ·simp only[List.length_append,List.length_cons,List.length_take,List.length_drop];omega
   ·have h1:(s.sess.take (zdf s.sess c)).find? (fun x=>x.client==c)=none:=List.find?_eq_none.2 fun x hx=>List.find?_eq_none.1 hf x (List.mem_of_mem_take hx)
    simp only[zaC,List.find?_append,h1,Option.none_or,List.find?_cons,beq_self_eq_true,Option.getD_some]
 ·exfalso
  have:zbR s.sess c (s.num+1) s.time=([],1):=by
   unfold zbR
   rw[if_pos (by simp only[Bool.or_eq_true,decide_eq_true_eq];omega)]
  rw[this]at he
  cases he
set_option maxHeartbeats 2000000 in
theorem zoF (s:St) (h:Small s) (hr:RightS s) (c:Int) (hc:isClient c=true):CallOK Tryz.prog 101 [.f (zpm s), .f (ai c)]
  (fun r o=>r=[znc (zbr s c).1,zez (zbr s c).2]∧o=[]):=by
 refine CallOK.nil ?_
 refine zac zar mixed (T:=Ty) (n:=49) Tryz.func101 (c:=Tryz.f101.body.getD .skip) rfl Tryz.results101 Tryz.ntmps101 Tryz.call101 ?_
 simp only[Tryz.f101,Option.getD]
 have hfi:=zcK s.sess (by have:=h.sess;omega) c
 have hn:=hr.num
 have hH:zaT=2^61:=by decide
 have hw:IntKind.i64.wrap (s.num+1)=s.num+1:=wrap64 (by omega) (by omega)
 cases hf:zaC s.sess c with
 |some x=>
  have hto:=ziB s h c 7 0
  rw[hf]at hfi hto
  simp only[Option.isSome_some,Option.getD_some]at hfi hto
  have ho:zbr s c=(s,⟨7,x.num,0,za7 s.locks c⟩):=by unfold zbr;rw[hf]
  rw[ho]
  repeat'(first|refine zq0 ?_|exact zd0|refine zc (hfi) ?_|refine zg (hfi) ?_|refine zc (hto) ?_|refine zg (hto) ?_|(refine zaa ?_ ?_<;>intro hb)|(refine And.intro ?_ ?_;exact zI)|(refine And.intro ?_ ?_<;>intro hg)|exact zC|fail)
  simp[zbg,zdg,zbp,zaY]
 |none=>
  rw[hf]at hfi
  simp only[Option.isSome_none,Option.getD_none]at hfi
  have hop:=zqq s.sess hr.ss h.sess c (s.num+1) s.time hc (by omega) hr.time hf (zdx hr)
  have ho:zbr s c=if((zbR s.sess c (s.num+1) s.time).2 !=0)=true then(s,⟨(zbR s.sess c (s.num+1) s.time).2,0,0,[]⟩)else
    ({s with sess:=(zbR s.sess c (s.num+1) s.time).1,num:=s.num+1},⟨0,s.num+1,0,za7 s.locks c⟩):=by unfold zbr;rw[hf];simp only[bne_iff_ne]
  cases he:(zbR s.sess c (s.num+1) s.time).2 !=0
  ·rw[he,if_neg (by simp)]at ho
   rw[ho]
   have hsm:Small {s with sess:=(zbR s.sess c (s.num+1) s.time).1,num:=s.num+1}:=⟨by have:=(zhF hr hc hf he).1;have:=hr.sl;simp only;omega,h.locks,h.memos,h.line,h.held⟩
   have hto:=ziB {s with sess:=(zbR s.sess c (s.num+1) s.time).1,num:=s.num+1} hsm c 0 0
   have hfo:((zaC (zbR s.sess c (s.num+1) s.time).1 c).getD zdI).num=s.num+1:=(zhF hr hc hf he).2
   simp only[hfo]at hto
   repeat'(first|(with_reducible first|refine zaZ 8 ?_|refine zaK 8 ?_|refine zaL 8 ?_)|refine zu (I hw he) ?_|exact zd (I hw he)|(with_reducible first|refine zab _ _ ?_)|refine zc (hfi) ?_|refine zg (hfi) ?_|refine zc (hop) ?_|refine zg (hop) ?_|(refine zaa ?_ ?_<;>intro hb)|(refine And.intro ?_ ?_;exact zI)|(refine And.intro ?_ ?_<;>intro hg)|exact zC|fail)
   refine za3 (za0 (Gh.sealF 2 3 (.own ⟨2,4,7⟩ 0 (zbR s.sess c (s.num+1) s.time).1.length) ?_) ?_)
   ·exact zo0
   refine zf0 ?_
   repeat'(first|refine zq hw ?_|exact zd hw|refine zc (hto) ?_|refine zg (hto) ?_|(refine zaa ?_ ?_<;>intro hb)|(refine And.intro ?_ ?_;exact zI)|(refine And.intro ?_ ?_<;>intro hg)|exact zC|fail)
   simp[zbg,zdg,zbp,zaY]
  ·rw[he,if_pos rfl]at ho
   rw[ho]
   repeat'(first|refine zq (I hw he) ?_|exact zd (I hw he)|refine zc (hfi) ?_|refine zg (hfi) ?_|refine zc (hop) ?_|refine zg (hop) ?_|(refine zaa ?_ ?_<;>intro hb)|(refine And.intro ?_ ?_;exact zI)|(refine And.intro ?_ ?_<;>intro hg)|exact zC|fail)
   simp[zbg,zdg,zbp,zaY]
theorem zmP {s:St} (hr:RightS s) {c:Int} {x:Sess} (hf:zaC s.sess c=some x):((zaC (zbf s.sess c s.time).1 c).getD zdI).num=x.num∧(zbf s.sess c s.time).1.length=s.sess.length:=by
 rw[zdK hr hf]
 refine⟨?_,by simp only[List.length_set]⟩
 simp only
 rw[←zj5 hr.ss hf]
 unfold zaC
 rw[List.find?_map,show((fun y:Sess=>y.client==c)∘zcF c s.time)=fun y:Sess=>y.client==c from by funext y;simp only[Function.comp,zcF];split<;>rfl]
 rw[show s.sess.find? (fun y:Sess=>y.client==c)=some x from hf]
 simp only[Option.map_some,Option.getD_some,zcF]
 split<;>rfl
theorem zmQ {l:List Lk} {name:ByteArray} {c t:Int} {w:Bool} (hl:∀k∈l,k.line.length<2^30∧k.name.size<2^62) (hs:SL l) (hll:∀k∈l,k.line.length≤3) (hn:name.size<2^62):
  ∀k∈(zaH l name c t w).1,k.line.length<2^30∧k.name.size<2^62:=by
 intro k hk
 unfold zaH at hk
 cases hf:zcc l name with
 |none=>
  rw[hf]at hk
  simp only at hk
  split at hk
  ·cases hk
  ·rcases List.mem_append.1 hk with hk|hk
   ·exact hl k (List.mem_of_mem_take hk)
   ·rcases List.mem_cons.1 hk with rfl|hk
    ·exact⟨by simp,hn⟩
    ·exact hl k (List.mem_of_mem_drop hk)
 |some k0=>
  rw[hf]at hk
  simp only at hk
  obtain⟨⟨hi,he⟩,_⟩:=zcd hs hf
  have hk0:=hl k0 (he▸List.getElem_mem hi)
  have hk3:=hll k0 (he▸List.getElem_mem hi)
  split at hk
  ·cases hk
  ·split at hk
   ·cases hk
   ·split at hk
    ·exact hl k hk
    ·split at hk
     ·cases hk
     ·rcases List.mem_or_eq_of_mem_set hk with hk|rfl
      ·exact hl k hk
      ·refine⟨?_,hk0.2⟩
       simp only
       unfold zc7
       repeat' split
       all_goals simp
       all_goals omega
theorem zmR {l:List Lk} {name:ByteArray} {c t:Int} (hl:∀k∈l,k.line.length<2^30∧k.name.size<2^62) (hs:SL l):
  ∀k∈(za2 l name c t).1,k.line.length<2^30∧k.name.size<2^62:=by
 intro k hk
 unfold za2 at hk
 cases hf:zcc l name with
 |none=>rw[hf]at hk;cases hk
 |some k0=>
  rw[hf]at hk
  simp only at hk
  obtain⟨⟨hi,he⟩,_⟩:=zcd hs hf
  have hk0:=hl k0 (he▸List.getElem_mem hi)
  split at hk
  ·unfold zco at hk
   split at hk
   ·exact hl k (List.mem_of_mem_eraseIdx hk)
   ·rename_i hline
    rcases List.mem_or_eq_of_mem_set hk with hk|rfl
    ·exact hl k hk
    ·refine⟨?_,hk0.2⟩
     have:=hk0.1
     rw[hline,List.length_cons]at this
     simp only;omega
  ·split at hk
   ·rcases List.mem_or_eq_of_mem_set hk with hk|rfl
    ·exact hl k hk
    ·refine⟨?_,hk0.2⟩
     simp only
     unfold zce
     split
     ·exact hk0.1
     ·exact Nat.lt_of_le_of_lt (List.length_eraseIdx_le ..) hk0.1
   ·cases hk
theorem zmO {l:List Lk} {name:ByteArray} {c t:Int} {w:Bool} (h:((zaH l name c t w).2.2==10)=false):(zaH l name c t w).2.1=0:=by
 revert h
 unfold zaH
 cases zcc l name with
 |none=>simp only;split<;>intros<;>rfl
 |some k=>
  simp only
  repeat' split
  all_goals first|(intros;rfl)|(intro h;cases h)
set_option maxHeartbeats 8000000 in
theorem zqo (s:St) (h:Small s) (hr:RightS s) (r:Req) (hro:r.ok) (hm:Req.may r=true):CallOK Tryz.prog 64 [.f (zpm s), .f (.agg (r.enc.map C.d))]
  (fun x o=>x=[znc (zaV s r).1,zez (zaV s r).2]∧o=[]):=by
 refine CallOK.nil ?_
 refine zac zar mixed (T:=Ty) (n:=147) Tryz.func64 (c:=Tryz.f64.body.getD .skip) rfl Tryz.results64 Tryz.ntmps64 Tryz.call64 ?_
 simp only[Tryz.f64,Option.getD]
 obtain⟨hc,_,hnm⟩:=zgg hm
 have hfi:=zcK s.sess (by have:=h.sess;omega) r.client
 have hT:=hr.token
 have hH:zaT=2^61:=by decide
 have hll:∀k∈s.locks,k.line.length<2^30:=fun k hk=>(h.line k hk).1
 have hl3:∀k∈s.locks,k.line.length≤3:=fun k hk=>(zbB.1 (hr.lok k hk).2.2.1).1
 have hlf:∀k∈s.locks,k.line.length<2^30∧k.line.Nodup:=fun k hk=>⟨hll k hk,zeP hr k hk⟩
 cases h1:r.kind==1
 ·cases hf:zaC s.sess r.client with
  |none=>
   rw[hf]at hfi
   simp only[Option.isSome_none,Option.getD_none]at hfi
   have hd:zaV s r=(s,⟨9,0,0,[]⟩):=by unfold zaV;rw[if_neg (by rw[h1];simp),hf]
   rw[hd]
   repeat'(first|refine zq h1 ?_|exact zd h1|refine zc (hfi) ?_|refine zg (hfi) ?_|(refine zaa ?_ ?_<;>intro hb)|(refine And.intro ?_ ?_;exact zI)|(refine And.intro ?_ ?_<;>intro hg)|exact zC|fail)
   all_goals simp[zbg,zdg,zbp,zaY]
  |some x=>
   rw[hf]at hfi
   simp only[Option.isSome_some,Option.getD_some]at hfi
   cases hx:x.num !=r.session
   ·have hrn:=zoJ s.sess hr.ss h.sess r.client s.time hr.time (by rw[hf];rfl)
    have hwt:IntKind.i64.wrap (s.token+1)=s.token+1:=wrap64 (by omega) (by omega)
    obtain⟨hrf,hrl⟩:=zmP hr hf
    obtain⟨S1,hS1⟩:∃S1,S1=(zbf s.sess r.client s.time).1:=⟨_,rfl⟩
    rw[←hS1]at hrf hrl
    have hsm:∀(t:Int) (L:List Lk),L.length<2^30→(∀k∈L,k.line.length<2^30∧k.name.size<2^62)→Small ⟨s.time,s.num,t,S1,L,s.memos⟩:=fun t L h1 h2=>⟨by simp only;have:=h.sess;omega,h1,h.memos,h2,h.held⟩
    have hto:∀(t:Int) (L:List Lk) (code ahead:Int),L.length<2^30→(∀k∈L,k.line.length<2^30∧k.name.size<2^62)→CallOK Tryz.prog 104 [.f (zpm ⟨s.time,s.num,t,S1,L,s.memos⟩), .f (ai r.client), .f (ai code), .f (ai ahead)]
      (fun y o=>y=[zez ⟨code,x.num,ahead,za7 L r.client⟩]∧o=[]):=fun t L code ahead h1 h2=>by
     have:=ziB ⟨s.time,s.num,t,S1,L,s.memos⟩ (hsm t L h1 h2) r.client code ahead
     simp only[hrf]at this
     exact this
    have hd0:zaV s r=if(r.kind==3||r.kind==4)=true then
      (if((zaH s.locks r.name r.client s.token (r.kind==3)).2.2==0)=true then(⟨s.time,s.num,s.token+1,S1,(zaH s.locks r.name r.client s.token (r.kind==3)).1,s.memos⟩,⟨(zaH s.locks r.name r.client s.token (r.kind==3)).2.2,x.num,0,za7 (zaH s.locks r.name r.client s.token (r.kind==3)).1 r.client⟩)
      else if((zaH s.locks r.name r.client s.token (r.kind==3)).2.2==10)=true then(⟨s.time,s.num,s.token,S1,(zaH s.locks r.name r.client s.token (r.kind==3)).1,s.memos⟩,⟨(zaH s.locks r.name r.client s.token (r.kind==3)).2.2,x.num,(zaH s.locks r.name r.client s.token (r.kind==3)).2.1,za7 (zaH s.locks r.name r.client s.token (r.kind==3)).1 r.client⟩)
      else(⟨s.time,s.num,s.token,S1,s.locks,s.memos⟩,⟨(zaH s.locks r.name r.client s.token (r.kind==3)).2.2,x.num,0,za7 s.locks r.client⟩))
     else if(r.kind==5)=true then
      (if((za2 s.locks r.name r.client s.token).2.2==0)=true then(⟨s.time,s.num,s.token+(za2 s.locks r.name r.client s.token).2.1,S1,(za2 s.locks r.name r.client s.token).1,s.memos⟩,⟨(za2 s.locks r.name r.client s.token).2.2,x.num,0,za7 (za2 s.locks r.name r.client s.token).1 r.client⟩)
      else(⟨s.time,s.num,s.token,S1,s.locks,s.memos⟩,⟨(za2 s.locks r.name r.client s.token).2.2,x.num,0,za7 s.locks r.client⟩))
     else if(r.kind==6)=true then(zbd ⟨s.time,s.num,s.token,S1,s.locks,s.memos⟩ [r.client],⟨0,0,0,[]⟩)
     else(⟨s.time,s.num,s.token,S1,s.locks,s.memos⟩,⟨0,x.num,0,za7 s.locks r.client⟩):=by
     rw[hS1]
     unfold zaV
     rw[if_neg (by rw[h1];simp),hf]
     simp only
     rw[if_neg (by rw[hx];simp)]
     split
     ·by_cases e0:(zaH s.locks r.name r.client s.token (r.kind==3)).2.2=0
      ·rw[if_pos e0,if_neg (by rw[e0];decide),if_pos (by simpa using e0)]
      ·by_cases e10:(zaH s.locks r.name r.client s.token (r.kind==3)).2.2=10
       ·rw[if_neg e0,if_pos e10,if_pos e10,if_neg (by simpa using e0),if_pos (by simpa using e10)]
       ·rw[if_neg e0,if_neg e10,if_neg e10,if_neg (by simpa using e0),if_neg (by simpa using e10)]
     ·split
      ·by_cases e0:(za2 s.locks r.name r.client s.token).2.2=0
       ·rw[if_pos e0,if_pos (by simpa using e0)]
       ·rw[if_neg e0,if_neg (by simpa using e0)]
      ·rfl
    rw[←hS1]at hrn
    have htl:=ziQ s.locks r.name r.client s.token (r.kind==3)
    have hfl:=ziR s.locks r.name r.client s.token
    have hnl:=hr.ll
    have htn:=zmQ (name:=r.name) (c:=r.client) (t:=s.token) (w:=r.kind==3) h.line hr.ls hl3 hro.2.2.2.2
    have hfn:=zmR (name:=r.name) (c:=r.client) (t:=s.token) h.line hr.ls
    have hta:=zqu s.locks hr.ls h.locks hll r.name r.client s.token (by omega) hc (r.kind==3)
    have hfr:=zlX s.locks hr.ls h.locks hlf r.name r.client s.token (by omega)
    have htz:=zmO (l:=s.locks) (name:=r.name) (c:=r.client) (t:=s.token) (w:=r.kind==3)
    cases h3:r.kind==3
    ·rw[h3]at hta htl htn htz
     rw[h3,Bool.false_or]at hd0
     cases h4:r.kind==4
     ·rw[h4,if_neg (by simp)]at hd0
      cases h5:r.kind==5
      ·rw[h5,if_neg (by simp)]at hd0
       cases h6:r.kind==6
       ·rw[h6,if_neg (by simp)]at hd0
        rw[hd0]
        have ht1:=hto s.token s.locks 0 0 h.locks h.line
        repeat'(first|(with_reducible first|refine zaZ 8 ?_|refine zaK 8 ?_|refine zaL 8 ?_)|refine zu (I h1 (I hx (I h3 (I h4 (I h5 h6))))) ?_|exact zd (I h1 (I hx (I h3 (I h4 (I h5 h6)))))|(with_reducible first|refine zab _ _ ?_)|refine zc (hfi) ?_|refine zg (hfi) ?_|refine zc (hrn) ?_|refine zg (hrn) ?_|(refine zaa ?_ ?_<;>intro hb)|(refine And.intro ?_ ?_;exact zI)|(refine And.intro ?_ ?_<;>intro hg)|exact zC|fail)
        refine za3 (za0 (Gh.sealF 2 3 (.own ⟨2,4,7⟩ 0 S1.length) ?_) ?_)
        ·exact zo0
        refine zf0 ?_
        repeat'(first|refine zq (I h1 (I hx (I h3 (I h4 (I h5 h6))))) ?_|exact zd (I h1 (I hx (I h3 (I h4 (I h5 h6)))))|refine zc (ht1) ?_|refine zg (ht1) ?_|(refine zaa ?_ ?_<;>intro hb)|(refine And.intro ?_ ?_;exact zI)|(refine And.intro ?_ ?_<;>intro hg)|exact zC|fail)
        simp[zbg,zdg,zbp,zaY]
       ·rw[h6,if_pos rfl]at hd0
        rw[hd0]
        have hwo:=zj4 ⟨s.time,s.num,s.token,S1,s.locks,s.memos⟩ (hsm s.token s.locks h.locks h.line) hr.ls (fun k hk=>zeP hr k hk) hr.token [r.client] (by simp)
        repeat'(first|(with_reducible first|refine zaZ 8 ?_|refine zaK 8 ?_|refine zaL 8 ?_)|refine zu (I h1 (I hx (I h3 (I h4 (I h5 h6))))) ?_|exact zd (I h1 (I hx (I h3 (I h4 (I h5 h6)))))|(with_reducible first|refine zab _ _ ?_)|refine zc (hfi) ?_|refine zg (hfi) ?_|refine zc (hrn) ?_|refine zg (hrn) ?_|(refine zaa ?_ ?_<;>intro hb)|(refine And.intro ?_ ?_;exact zI)|(refine And.intro ?_ ?_<;>intro hg)|exact zC|fail)
        refine za3 (za0 (Gh.sealF 2 3 (.own ⟨2,4,7⟩ 0 S1.length) ?_) ?_)
        ·exact zo0
        refine zf0 ?_
        repeat'(first|refine zq (I h1 (I hx (I h3 (I h4 (I h5 h6))))) ?_|exact zd (I h1 (I hx (I h3 (I h4 (I h5 h6)))))|refine zc (hwo) ?_|refine zg (hwo) ?_|(refine zaa ?_ ?_<;>intro hb)|(refine And.intro ?_ ?_;exact zI)|(refine And.intro ?_ ?_<;>intro hg)|exact zC|fail)
        simp[zbg,zdg,zbp,zaY]
      ·rw[h5,if_pos rfl]at hd0
       have hgi:=ziS s.locks r.name r.client s.token
       generalize hT0:za2 s.locks r.name r.client s.token=T at*
       cases e0:T.2.2==0
       ·rw[e0,if_neg (by simp)]at hd0
        rw[hd0]
        have ht1:=hto s.token s.locks T.2.2 0 h.locks h.line
        repeat'(first|(with_reducible first|refine zaZ 8 ?_|refine zaK 8 ?_|refine zaL 8 ?_)|refine zu (I h1 (I hx (I h3 (I h4 (I h5 e0))))) ?_|exact zd (I h1 (I hx (I h3 (I h4 (I h5 e0)))))|(with_reducible first|refine zab _ _ ?_)|refine zc (hfi) ?_|refine zg (hfi) ?_|refine zc (hrn) ?_|refine zg (hrn) ?_|(refine zaa ?_ ?_<;>intro hb)|(refine And.intro ?_ ?_;exact zI)|(refine And.intro ?_ ?_<;>intro hg)|exact zC|fail)
        refine za3 (za0 (Gh.sealF 2 3 (.own ⟨2,4,7⟩ 0 S1.length) ?_) ?_)
        ·exact zo0
        refine zf0 ?_
        repeat'(first|refine zq (I h1 (I hx (I h3 (I h4 (I h5 e0))))) ?_|exact zd (I h1 (I hx (I h3 (I h4 (I h5 e0)))))|refine zc (hfr) ?_|refine zg (hfr) ?_|refine zc (ht1) ?_|refine zg (ht1) ?_|(refine zaa ?_ ?_<;>intro hb)|(refine And.intro ?_ ?_;exact zI)|(refine And.intro ?_ ?_<;>intro hg)|exact zC|fail)
        simp[zbg,zdg,zbp,zaY]
       ·rw[e0,if_pos rfl]at hd0
        have hwf:IntKind.i64.wrap (s.token+T.2.1)=s.token+T.2.1:=wrap64 (by omega) (by omega)
        rw[hd0]
        have ht1:=hto (s.token+T.2.1) T.1 T.2.2 0 (by omega) hfn
        repeat'(first|(with_reducible first|refine zaZ 8 ?_|refine zaK 8 ?_|refine zaL 8 ?_)|refine zu (I h1 (I hx (I h3 (I h4 (I h5 e0))))) ?_|exact zd (I h1 (I hx (I h3 (I h4 (I h5 e0)))))|(with_reducible first|refine zab _ _ ?_)|refine zc (hfi) ?_|refine zg (hfi) ?_|refine zc (hrn) ?_|refine zg (hrn) ?_|(refine zaa ?_ ?_<;>intro hb)|(refine And.intro ?_ ?_;exact zI)|(refine And.intro ?_ ?_<;>intro hg)|exact zC|fail)
        refine za3 (za0 (Gh.sealF 2 3 (.own ⟨2,4,7⟩ 0 S1.length) ?_) ?_)
        ·exact zo0
        refine zf0 ?_
        repeat'(first|(with_reducible first|refine zaZ 22 ?_|refine zaK 22 ?_|refine zaL 22 ?_)|refine zu (I h1 (I hx (I h3 (I h4 (I h5 (I e0 hwf)))))) ?_|exact zd (I h1 (I hx (I h3 (I h4 (I h5 (I e0 hwf))))))|(with_reducible first|refine zab _ _ ?_)|refine zc (hfr) ?_|refine zg (hfr) ?_|(refine zaa ?_ ?_<;>intro hb)|(refine And.intro ?_ ?_;exact zI)|(refine And.intro ?_ ?_<;>intro hg)|exact zC|fail)
        refine za3 (za0 (Gh.sealF 2 4 (.own ⟨2,5,8⟩ 0 T.1.length) ?_) ?_)
        ·exact zo0
        refine zf0 ?_
        repeat'(first|refine zq (I h1 (I hx (I h3 (I h4 (I h5 (I e0 hwf)))))) ?_|exact zd (I h1 (I hx (I h3 (I h4 (I h5 (I e0 hwf))))))|refine zc (ht1) ?_|refine zg (ht1) ?_|(refine zaa ?_ ?_<;>intro hb)|(refine And.intro ?_ ?_;exact zI)|(refine And.intro ?_ ?_<;>intro hg)|exact zC|fail)
        simp[zbg,zdg,zbp,zaY]
     ·rw[h4,if_pos rfl]at hd0
      generalize hT0:zaH s.locks r.name r.client s.token false=T at*
      cases e0:T.2.2==0
      ·cases e10:T.2.2==10
       ·rw[e0,if_neg (by simp),e10,if_neg (by simp)]at hd0
        rw[hd0]
        have ht1:=hto s.token s.locks T.2.2 0 h.locks h.line
        have hz:=htz e10
        rw[hz]at hta
        repeat'(first|(with_reducible first|refine zaZ 8 ?_|refine zaK 8 ?_|refine zaL 8 ?_)|refine zu (I h1 (I hx (I h3 (I h4 (I e0 e10))))) ?_|exact zd (I h1 (I hx (I h3 (I h4 (I e0 e10)))))|(with_reducible first|refine zab _ _ ?_)|refine zc (hfi) ?_|refine zg (hfi) ?_|refine zc (hrn) ?_|refine zg (hrn) ?_|(refine zaa ?_ ?_<;>intro hb)|(refine And.intro ?_ ?_;exact zI)|(refine And.intro ?_ ?_<;>intro hg)|exact zC|fail)
        refine za3 (za0 (Gh.sealF 2 3 (.own ⟨2,4,7⟩ 0 S1.length) ?_) ?_)
        ·exact zo0
        refine zf0 ?_
        repeat'(first|refine zq (I h1 (I hx (I h3 (I h4 (I e0 (I e10 hwt)))))) ?_|exact zd (I h1 (I hx (I h3 (I h4 (I e0 (I e10 hwt))))))|refine zc (hta) ?_|refine zg (hta) ?_|refine zc (ht1) ?_|refine zg (ht1) ?_|(refine zaa ?_ ?_<;>intro hb)|(refine And.intro ?_ ?_;exact zI)|(refine And.intro ?_ ?_<;>intro hg)|exact zC|fail)
        simp[zbg,zdg,zbp,zaY]
       ·rw[e0,if_neg (by simp),e10,if_pos rfl]at hd0
        rw[hd0]
        have ht1:=hto s.token T.1 T.2.2 T.2.1 (by omega) htn
        repeat'(first|(with_reducible first|refine zaZ 8 ?_|refine zaK 8 ?_|refine zaL 8 ?_)|refine zu (I h1 (I hx (I h3 (I h4 (I e0 e10))))) ?_|exact zd (I h1 (I hx (I h3 (I h4 (I e0 e10)))))|(with_reducible first|refine zab _ _ ?_)|refine zc (hfi) ?_|refine zg (hfi) ?_|refine zc (hrn) ?_|refine zg (hrn) ?_|(refine zaa ?_ ?_<;>intro hb)|(refine And.intro ?_ ?_;exact zI)|(refine And.intro ?_ ?_<;>intro hg)|exact zC|fail)
        refine za3 (za0 (Gh.sealF 2 3 (.own ⟨2,4,7⟩ 0 S1.length) ?_) ?_)
        ·exact zo0
        refine zf0 ?_
        repeat'(first|(with_reducible first|refine zaZ 16 ?_|refine zaK 16 ?_|refine zaL 16 ?_)|refine zu (I h1 (I hx (I h3 (I h4 (I e0 (I e10 hwt)))))) ?_|exact zd (I h1 (I hx (I h3 (I h4 (I e0 (I e10 hwt))))))|(with_reducible first|refine zab _ _ ?_)|refine zc (hta) ?_|refine zg (hta) ?_|(refine zaa ?_ ?_<;>intro hb)|(refine And.intro ?_ ?_;exact zI)|(refine And.intro ?_ ?_<;>intro hg)|exact zC|fail)
        refine za3 (za0 (Gh.sealF 2 4 (.own ⟨2,5,8⟩ 0 T.1.length) ?_) ?_)
        ·exact zo0
        refine zf0 ?_
        repeat'(first|refine zq (I h1 (I hx (I h3 (I h4 (I e0 (I e10 hwt)))))) ?_|exact zd (I h1 (I hx (I h3 (I h4 (I e0 (I e10 hwt))))))|refine zc (ht1) ?_|refine zg (ht1) ?_|(refine zaa ?_ ?_<;>intro hb)|(refine And.intro ?_ ?_;exact zI)|(refine And.intro ?_ ?_<;>intro hg)|exact zC|fail)
        simp[zbg,zdg,zbp,zaY]
      ·rw[e0,if_pos rfl]at hd0
       rw[hd0]
       have ht1:=hto (s.token+1) T.1 T.2.2 0 (by omega) htn
       have hz:=htz (by have:T.2.2=0:=(by simpa using e0);rw[this];rfl)
       rw[hz]at hta
       repeat'(first|(with_reducible first|refine zaZ 8 ?_|refine zaK 8 ?_|refine zaL 8 ?_)|refine zu (I h1 (I hx (I h3 (I h4 e0)))) ?_|exact zd (I h1 (I hx (I h3 (I h4 e0))))|(with_reducible first|refine zab _ _ ?_)|refine zc (hfi) ?_|refine zg (hfi) ?_|refine zc (hrn) ?_|refine zg (hrn) ?_|(refine zaa ?_ ?_<;>intro hb)|(refine And.intro ?_ ?_;exact zI)|(refine And.intro ?_ ?_<;>intro hg)|exact zC|fail)
       refine za3 (za0 (Gh.sealF 2 3 (.own ⟨2,4,7⟩ 0 S1.length) ?_) ?_)
       ·exact zo0
       refine zf0 ?_
       repeat'(first|(with_reducible first|refine zaZ 16 ?_|refine zaK 16 ?_|refine zaL 16 ?_)|refine zu (I h1 (I hx (I h3 (I h4 (I e0 hwt))))) ?_|exact zd (I h1 (I hx (I h3 (I h4 (I e0 hwt)))))|(with_reducible first|refine zab _ _ ?_)|refine zc (hta) ?_|refine zg (hta) ?_|(refine zaa ?_ ?_<;>intro hb)|(refine And.intro ?_ ?_;exact zI)|(refine And.intro ?_ ?_<;>intro hg)|exact zC|fail)
       refine za3 (za0 (Gh.sealF 2 4 (.own ⟨2,5,8⟩ 0 T.1.length) ?_) ?_)
       ·exact zo0
       refine zf0 ?_
       repeat'(first|refine zq (I h1 (I hx (I h3 (I h4 (I e0 hwt))))) ?_|exact zd (I h1 (I hx (I h3 (I h4 (I e0 hwt)))))|refine zc (ht1) ?_|refine zg (ht1) ?_|(refine zaa ?_ ?_<;>intro hb)|(refine And.intro ?_ ?_;exact zI)|(refine And.intro ?_ ?_<;>intro hg)|exact zC|fail)
       simp[zbg,zdg,zbp,zaY]
    ·rw[h3]at hta htl htn htz
     rw[h3,Bool.true_or,if_pos rfl]at hd0
     generalize hT0:zaH s.locks r.name r.client s.token true=T at*
     cases e0:T.2.2==0
     ·cases e10:T.2.2==10
      ·rw[e0,if_neg (by simp),e10,if_neg (by simp)]at hd0
       rw[hd0]
       have ht1:=hto s.token s.locks T.2.2 0 h.locks h.line
       have hz:=htz e10
       rw[hz]at hta
       repeat'(first|(with_reducible first|refine zaZ 8 ?_|refine zaK 8 ?_|refine zaL 8 ?_)|refine zu (I h1 (I hx (I h3 (I e0 e10)))) ?_|exact zd (I h1 (I hx (I h3 (I e0 e10))))|(with_reducible first|refine zab _ _ ?_)|refine zc (hfi) ?_|refine zg (hfi) ?_|refine zc (hrn) ?_|refine zg (hrn) ?_|(refine zaa ?_ ?_<;>intro hb)|(refine And.intro ?_ ?_;exact zI)|(refine And.intro ?_ ?_<;>intro hg)|exact zC|fail)
       refine za3 (za0 (Gh.sealF 2 3 (.own ⟨2,4,7⟩ 0 S1.length) ?_) ?_)
       ·exact zo0
       refine zf0 ?_
       repeat'(first|refine zq (I h1 (I hx (I h3 (I e0 (I e10 hwt))))) ?_|exact zd (I h1 (I hx (I h3 (I e0 (I e10 hwt)))))|refine zc (hta) ?_|refine zg (hta) ?_|refine zc (ht1) ?_|refine zg (ht1) ?_|(refine zaa ?_ ?_<;>intro hb)|(refine And.intro ?_ ?_;exact zI)|(refine And.intro ?_ ?_<;>intro hg)|exact zC|fail)
       simp[zbg,zdg,zbp,zaY]
      ·rw[e0,if_neg (by simp),e10,if_pos rfl]at hd0
       rw[hd0]
       have ht1:=hto s.token T.1 T.2.2 T.2.1 (by omega) htn
       repeat'(first|(with_reducible first|refine zaZ 8 ?_|refine zaK 8 ?_|refine zaL 8 ?_)|refine zu (I h1 (I hx (I h3 (I e0 e10)))) ?_|exact zd (I h1 (I hx (I h3 (I e0 e10))))|(with_reducible first|refine zab _ _ ?_)|refine zc (hfi) ?_|refine zg (hfi) ?_|refine zc (hrn) ?_|refine zg (hrn) ?_|(refine zaa ?_ ?_<;>intro hb)|(refine And.intro ?_ ?_;exact zI)|(refine And.intro ?_ ?_<;>intro hg)|exact zC|fail)
       refine za3 (za0 (Gh.sealF 2 3 (.own ⟨2,4,7⟩ 0 S1.length) ?_) ?_)
       ·exact zo0
       refine zf0 ?_
       repeat'(first|(with_reducible first|refine zaZ 16 ?_|refine zaK 16 ?_|refine zaL 16 ?_)|refine zu (I h1 (I hx (I h3 (I e0 (I e10 hwt))))) ?_|exact zd (I h1 (I hx (I h3 (I e0 (I e10 hwt)))))|(with_reducible first|refine zab _ _ ?_)|refine zc (hta) ?_|refine zg (hta) ?_|(refine zaa ?_ ?_<;>intro hb)|(refine And.intro ?_ ?_;exact zI)|(refine And.intro ?_ ?_<;>intro hg)|exact zC|fail)
       refine za3 (za0 (Gh.sealF 2 4 (.own ⟨2,5,8⟩ 0 T.1.length) ?_) ?_)
       ·exact zo0
       refine zf0 ?_
       repeat'(first|refine zq (I h1 (I hx (I h3 (I e0 (I e10 hwt))))) ?_|exact zd (I h1 (I hx (I h3 (I e0 (I e10 hwt)))))|refine zc (ht1) ?_|refine zg (ht1) ?_|(refine zaa ?_ ?_<;>intro hb)|(refine And.intro ?_ ?_;exact zI)|(refine And.intro ?_ ?_<;>intro hg)|exact zC|fail)
       simp[zbg,zdg,zbp,zaY]
     ·rw[e0,if_pos rfl]at hd0
      rw[hd0]
      have ht1:=hto (s.token+1) T.1 T.2.2 0 (by omega) htn
      have hz:=htz (by have:T.2.2=0:=(by simpa using e0);rw[this];rfl)
      rw[hz]at hta
      repeat'(first|(with_reducible first|refine zaZ 8 ?_|refine zaK 8 ?_|refine zaL 8 ?_)|refine zu (I h1 (I hx (I h3 e0))) ?_|exact zd (I h1 (I hx (I h3 e0)))|(with_reducible first|refine zab _ _ ?_)|refine zc (hfi) ?_|refine zg (hfi) ?_|refine zc (hrn) ?_|refine zg (hrn) ?_|(refine zaa ?_ ?_<;>intro hb)|(refine And.intro ?_ ?_;exact zI)|(refine And.intro ?_ ?_<;>intro hg)|exact zC|fail)
      refine za3 (za0 (Gh.sealF 2 3 (.own ⟨2,4,7⟩ 0 S1.length) ?_) ?_)
      ·exact zo0
      refine zf0 ?_
      repeat'(first|(with_reducible first|refine zaZ 16 ?_|refine zaK 16 ?_|refine zaL 16 ?_)|refine zu (I h1 (I hx (I h3 (I e0 hwt)))) ?_|exact zd (I h1 (I hx (I h3 (I e0 hwt))))|(with_reducible first|refine zab _ _ ?_)|refine zc (hta) ?_|refine zg (hta) ?_|(refine zaa ?_ ?_<;>intro hb)|(refine And.intro ?_ ?_;exact zI)|(refine And.intro ?_ ?_<;>intro hg)|exact zC|fail)
      refine za3 (za0 (Gh.sealF 2 4 (.own ⟨2,5,8⟩ 0 T.1.length) ?_) ?_)
      ·exact zo0
      refine zf0 ?_
      repeat'(first|refine zq (I h1 (I hx (I h3 (I e0 hwt)))) ?_|exact zd (I h1 (I hx (I h3 (I e0 hwt))))|refine zc (ht1) ?_|refine zg (ht1) ?_|(refine zaa ?_ ?_<;>intro hb)|(refine And.intro ?_ ?_;exact zI)|(refine And.intro ?_ ?_<;>intro hg)|exact zC|fail)
      simp[zbg,zdg,zbp,zaY]
   ·have hd:zaV s r=(s,⟨9,0,0,[]⟩):=by unfold zaV;rw[if_neg (by rw[h1];simp),hf];simp only;rw[if_pos hx]
    rw[hd]
    repeat'(first|refine zq (I h1 hx) ?_|exact zd (I h1 hx)|refine zc (hfi) ?_|refine zg (hfi) ?_|(refine zaa ?_ ?_<;>intro hb)|(refine And.intro ?_ ?_;exact zI)|(refine And.intro ?_ ?_<;>intro hg)|exact zC|fail)
    all_goals simp[zbg,zdg,zbp,zaY]
 ·have hop:=zoF s h hr r.client hc
  have hd:zaV s r=zbr s r.client:=by unfold zaV;rw[if_pos h1]
  rw[hd]
  repeat'(first|refine zq h1 ?_|exact zd h1|refine zc (hfi) ?_|refine zg (hfi) ?_|refine zc (hop) ?_|refine zg (hop) ?_|(refine zaa ?_ ?_<;>intro hb)|(refine And.intro ?_ ?_;exact zI)|(refine And.intro ?_ ?_<;>intro hg)|exact zC|fail)
  all_goals simp[zbg,zdg,zbp,zaY]
def zcA (n:Int):Prop:=0≤n∧n<256
theorem zcR {n:Int} (h:zcA n):IntKind.i64.wrap n=n:=by have:=h;unfold zcA at this;exact wrap64 (by omega) (by omega)
theorem zb6 {n:Int} (h:0≤n) (k:Int):n.tmod k=n % k:=Int.tmod_eq_emod_of_nonneg h
def zsJ:List ByteArray:=[⟨#[97]⟩,⟨#[98]⟩,⟨#[99]⟩,⟨#[100]⟩,⟨#[107,101,121,45,49]⟩,⟨#[116,104,101,45,108,97,115,116,45,111,110,101]⟩]
def ziN (n:Int):ByteArray:=(zsJ[(n % 6).toNat]?).getD .empty
theorem six (n:Int):n % 6=0∨n % 6=1∨n % 6=2∨n % 6=3∨n % 6=4∨n % 6=5:=by omega
theorem zm6 (n:Int) (hn:zcA n):CallOK Tryz.prog 136 [.f (au n)] (fun r o=>r=[.one (.d (sD (ziN n)))]∧o=[]):=by
 refine zac zar mixed (T:=Ty) (n:=9) Tryz.func136 (c:=Tryz.f136.body.getD .skip) rfl Tryz.results136 Tryz.ntmps136 Tryz.call136 ?_
 simp only[Tryz.f136,Option.getD]
 have hw:=zcR hn
 have ht:=zb6 hn.1 6
 unfold ziN
 rcases six n with h|h|h|h|h|h
 all_goals
  rw[h]at ht⊢
  repeat'(first|(with_reducible first|refine zab _ _ ?_|refine zaP ?_|refine zaQ ?_)|rw[zak]|simp only[hw,ht,Int.reduceToNat,List.drop_succ_cons,List.drop_zero,zY,Int.reduceEq,Int.reduceBEq,Int.reduceBNe,Nat.reduceSub,Nat.reduceEqDiff,Nat.reduceAdd,Nat.reduceMul,Nat.reduceLeDiff,Nat.reduceLT,Nat.reduceBEq,reduceCtorEq]|refine zam ?_|refine zaa (fun hb=> ?_) (fun hb=> ?_)|(refine And.intro ?_ ?_;exact zI)|refine And.intro (fun hg=> ?_) (fun hg=> ?_)|exact zC|fail)
  rfl
def zg1 (a:Int):Int:=1+a % 6
def zl9 (a b:Int):Int:=if zg1 a=1 then 0 else 1+b % 7
def zm7 (a c:Int):ByteArray:=if(zg1 a==3||zg1 a==4||zg1 a==5)=true then ziN c else .empty
theorem zrt (a b c:Int) (ha:zcA a) (hb:zcA b) (hc:zcA c):CallOK Tryz.prog 96 [.f (au a), .f (au b), .f (au c)] (fun r o=>r=[.agg [.d (iD (zg1 a)), .d (iD (zl9 a b)), .d (sD (zm7 a c))]]∧o=[]):=by
 refine zac zar mixed (T:=Ty) (n:=30) Tryz.func96 (c:=Tryz.f96.body.getD .skip) rfl Tryz.results96 Tryz.ntmps96 Tryz.call96 ?_
 simp only[Tryz.f96,Option.getD]
 have hnm:=zm6 c hc
 have hwa:=zcR ha
 have hwb:=zcR hb
 have hta:=zb6 ha.1 6
 have htb:=zb6 hb.1 7
 have hws:IntKind.i64.wrap (1+b % 7)=1+b % 7:=wrap64 (by omega) (by omega)
 unfold zm7 zl9 zg1
 have w1:IntKind.i64.wrap 1=1:=rfl
 have w2:IntKind.i64.wrap 2=2:=rfl
 have w3:IntKind.i64.wrap 3=3:=rfl
 have w4:IntKind.i64.wrap 4=4:=rfl
 have w5:IntKind.i64.wrap 5=5:=rfl
 have w6:IntKind.i64.wrap 6=6:=rfl
 rcases six a with h|h|h|h|h|h
 all_goals
  rw[h]at hta⊢
  repeat'(first|(with_reducible first|refine zab _ _ ?_|refine zaP ?_|refine zaQ ?_)|rw[zak]|simp only[hwa,hwb,hta,htb,hws,w1,w2,w3,w4,w5,w6,Int.reduceAdd,Int.reduceEq,Int.reduceBEq,zY,Int.reduceEq,Int.reduceBEq,Int.reduceBNe,Nat.reduceSub,Nat.reduceEqDiff,Nat.reduceAdd,Nat.reduceMul,Nat.reduceLeDiff,Nat.reduceLT,Nat.reduceBEq,reduceCtorEq]|((first|((try refine zaz ?_);apply zaD)|(apply zaB;intro _));(solve|exact(hnm)|(refine CallOK.le (hnm) ?_;exact zM)|fail);try case hn=>rfl)|refine zam ?_|refine zaa (fun hb=> ?_) (fun hb=> ?_)|(refine And.intro ?_ ?_;exact zI)|refine And.intro (fun hg=> ?_) (fun hg=> ?_)|exact zC|fail)
structure Act where
 time:Int
 client:Int
 seq:Int
 kind:Int
 session:Int
 name:Int
abbrev Act.enc (a:Act):List D:=[uD a.time,uD a.client,uD a.seq,uD a.kind,uD a.session,uD a.name]
abbrev zkq (l:List Act):List D:=l.flatMap Act.enc
def zkr (a:Act):Prop:=zcA a.time∧zcA a.client∧zcA a.seq∧zcA a.kind∧zcA a.session∧zcA a.name
theorem zru {l:List Act} {i:Nat} (hi:i<l.length):(zkq l).drop (i*6)=l[i].enc++(zkq (l.drop (i+1))):=zcy _ 6 l i hi fun _=>rfl
theorem zk2 {l:List Act}:(zkq l).length=l.length*6:=zb1 _ 6 (fun _=>rfl) l
def ztz (c q k s n:Int):Req:=⟨c % 8,1+q,zg1 k,zl9 k s,zm7 k n⟩
theorem zrv (c q k s n:Int) (h1:zcA c) (h2:zcA q) (h3:zcA k) (h4:zcA s) (h5:zcA n):CallOK Tryz.prog 56 [.f (au c), .f (au q), .f (au k), .f (au s), .f (au n)] (fun r o=>r=[.agg ((ztz c q k s n).enc.map RO.d)]∧o=[]):=by
 refine zac zar mixed (T:=Ty) (n:=22) Tryz.func56 (c:=Tryz.f56.body.getD .skip) rfl Tryz.results56 Tryz.ntmps56 Tryz.call56 ?_
 simp only[Tryz.f56,Option.getD]
 have hcm:=zrt k s n h3 h4 h5
 have hwc:=zcR h1
 have hwq:=zcR h2
 have htc:=zb6 h1.1 8
 have hq1:IntKind.i64.wrap (1+q)=1+q:=by unfold zcA at h2;exact wrap64 (by omega) (by omega)
 repeat'(first|refine zq (I hwc (I hwq (I htc hq1))) ?_|exact zd (I hwc (I hwq (I htc hq1)))|refine zc (hcm) ?_|refine zg (hcm) ?_|(refine zaa ?_ ?_<;>intro hb)|(refine And.intro ?_ ?_;exact zI)|(refine And.intro ?_ ?_<;>intro hg)|exact zC|fail)
 rfl
theorem zhQ (l:List Memo) (hl:l.length<2^62) (c:Int):CallOK Tryz.prog 42 [.f (al l.length (zav l)), .f (ai c)]
  (fun r o=>r=[.agg (((zbe l c).getD zcm).enc.map RO.d),rb (zbe l c).isSome]∧o=[]):=by
 refine CallOK.nil ?_
 refine zac zar mixed (T:=Ty) (n:=25) Tryz.func42 (c:=Tryz.f42.body.getD .skip) rfl Tryz.results42 Tryz.ntmps42 Tryz.call42 ?_
 simp only[Tryz.f42,Option.getD]
 repeat'(first|refine zq0 ?_|exact zd0|(refine zaa ?_ ?_<;>intro hb)|(refine And.intro ?_ ?_;exact zI)|(refine And.intro ?_ ?_<;>intro hg)|exact zC|fail)
 refine zao (τ:=Nat) (fun i=>⟨[al l.length (zav l),ai c,dd,dd, .one (.ptr ⟨4,0,1⟩ 0),dd,ai i,dd,dd,dd,dd,dd,dd,dd,dd,dd,dd,dd,dd,dd,dd,dd,dd,dd,dd],[(4,{next:=2,l:=[some {e:=1,var:=true,fz:=false,sz:=0,cells:=[di 0,di 0,di 0,di 0,di 0, .d (.v (.slice none 0 0))]},none,none,none,none,none,none]})]⟩)
  (fun i=>i≤l.length) (fun i=>zbe (l.drop i) c) (fun i=>l.length - i) 0
  (Gh.canon [4] [] [] zK rfl rfl) (Nat.zero_le _) ?_
 intro i hi0 hF K hK
 rw[List.drop_zero]at hF
 refine zw ?_
 refine zaa (fun hlt=> ?_) (fun hge=> ?_)
 ·have hi:i<l.length:=by simpa using hlt
  have hat:=zbu hi
  have hw:=zan hi hl
  have hq:zbe (l.drop i) c=if(l[i].client==c)=true then some l[i]else zbe (l.drop (i+1)) c:=by
   unfold zbe
   rw[List.drop_eq_getElem_cons hi,List.find?_cons]
   cases l[i].client==c<;>rfl
  rw[hq]at hF
  repeat'(first|refine zq (I hat (I @zaj zca)) ?_|exact zd (I hat (I @zaj zca))|(refine zaa ?_ ?_<;>intro hb)|(refine And.intro ?_ ?_;exact zI)|(refine And.intro ?_ ?_<;>intro hg)|exact zC|fail)
  ·rw[if_pos hb]at hF
   rw[←hF]
   simp[zbg,zdg,zbp,zaY]
  ·rw[if_neg (by rw[hb];simp)]at hq
   exact hK _ (i+1) (Gh.canon [4] [] [] (zk hw) rfl rfl) hi hq.symm (by omega)
 ·have hi:i=l.length:=by
   have:¬(i:Int)<l.length:=by simpa using hge
   omega
  rw[hi,List.drop_length]at hF
  have hF:none=zbe l c:=hF
  rw[←hF]
  repeat'(first|refine zq0 ?_|exact zd0|(refine zaa ?_ ?_<;>intro hb)|(refine And.intro ?_ ?_;exact zI)|(refine And.intro ?_ ?_<;>intro hg)|exact zC|fail)
  simp[zbg,zdg,zbp,zaY,zcm]
def zpf (s:St) (a:Act):Req:=
 let r:=ztz a.client (a.seq % 6) a.kind a.session a.name
 let b1:=(zaC s.sess r.client).isSome&&decide (a.session % 8>0)&&(r.kind !=1)
 let b2:= !(zaC s.sess r.client).isSome&&decide (a.session % 4>0)
 ⟨r.client,if decide (a.seq % 5>0)=true then(if(zbe s.memos r.client).isSome=true then((zbe s.memos r.client).getD zcm).seq+1 else 1)else r.seq,
  if b2=true then 1 else r.kind,if b2=true then 0 else if b1=true then((zaC s.sess r.client).getD zdI).num else r.session,if b2=true then .empty else r.name⟩
set_option maxHeartbeats 4000000 in
theorem zma (s:St) (h:Small s) (hr:RightS s) (a:Act) (ha:zkr a):CallOK Tryz.prog 30 [.f (.agg s.lent), .f (.agg (a.enc.map C.d))] (fun r o=>r=[.agg ((zpf s a).enc.map RO.d)]∧o=[]):=by
 refine zac zar mixed (T:=Ty) (n:=76) Tryz.func30 (c:=Tryz.f30.body.getD .skip) rfl Tryz.results30 Tryz.ntmps30 Tryz.call30 ?_
 simp only[Tryz.f30,Option.getD]
 obtain⟨_,h1,h2,h3,h4,h5⟩:=ha
 have hrq:=zrv a.client (a.seq % 6) a.kind a.session a.name h1 (by unfold zcA;omega) h3 h4 h5
 generalize hN:ztz a.client (a.seq % 6) a.kind a.session a.name=r at*
 have hla:=zhQ s.memos (by have:=h.memos;omega) r.client
 have hfi:=zcK s.sess (by have:=h.sess;omega) r.client
 have ht6:=zb6 h2.1 6
 have ht5:=zb6 h2.1 5
 have ht8:=zb6 h4.1 8
 have ht4:=zb6 h4.1 4
 have hwm:IntKind.i64.wrap (((zbe s.memos r.client).getD zcm).seq+1)=((zbe s.memos r.client).getD zcm).seq+1:=by
  have hb:0≤((zbe s.memos r.client).getD zcm).seq∧((zbe s.memos r.client).getD zcm).seq≤zaT:=by
   cases hf:zbe s.memos r.client with
   |none=>decide
   |some m=>
    have:=(zcI (hr.mok m (List.mem_of_find?_eq_some hf))).2.1
    simp only[Option.getD_some];omega
  have hH:zaT=2305843009213693952:=rfl
  exact wrap64 (by omega) (by omega)
 have hR:zpf s a=⟨r.client,if decide (a.seq % 5>0)=true then(if(zbe s.memos r.client).isSome=true then((zbe s.memos r.client).getD zcm).seq+1 else 1)else r.seq,
  if(!(zaC s.sess r.client).isSome&&decide (a.session % 4>0))=true then 1 else r.kind,if(!(zaC s.sess r.client).isSome&&decide (a.session % 4>0))=true then 0 else if((zaC s.sess r.client).isSome&&decide (a.session % 8>0)&&(r.kind !=1))=true then((zaC s.sess r.client).getD zdI).num else r.session,
  if(!(zaC s.sess r.client).isSome&&decide (a.session % 4>0))=true then .empty else r.name⟩:=by unfold zpf;rw[hN]
 generalize zpf s a=R at hR⊢
 repeat'(first|refine zq (I ht6 (I ht5 (I ht8 (I ht4 hwm)))) ?_|exact zd (I ht6 (I ht5 (I ht8 (I ht4 hwm))))|refine zc (hrq) ?_|refine zg (hrq) ?_|refine zc (hla) ?_|refine zg (hla) ?_|refine zc (hfi) ?_|refine zg (hfi) ?_|(refine zaa ?_ ?_<;>intro hb)|(refine And.intro ?_ ?_;exact zI)|(refine And.intro ?_ ?_<;>intro hg)|exact zC|fail)
 all_goals clear hrq hla hfi ht6 ht5 ht8 ht4 hwm hN h hr h1 h2 h3 h4 h5
 all_goals subst hR
 all_goals simp only[*,if_true,Bool.false_eq_true,if_false]
end Go.Proofs.YtngleemijkaeoaaGreat
