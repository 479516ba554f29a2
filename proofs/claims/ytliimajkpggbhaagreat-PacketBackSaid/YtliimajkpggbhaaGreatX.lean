import Derived.Test.YtliimajkpggbhaaGreatP
namespace Go.Proofs.YtliimajkpggbhaaGreat
open Go.Pk Tryz
set_option maxRecDepth 100000
set_option linter.unusedSimpArgs false
set_option linter.unusedVariables false
abbrev stE (s:St):List D:=[iD s.time,iD s.num,iD s.token, .sl s.sess.length (za1 s.sess), .sl s.locks.length (zaj s.locks), .sl s.memos.length (zaM s.memos)]
abbrev zAy (s:St):RF:= .agg ((stE s).map RO.d)
abbrev zmJ (a:Reply):RF:= .agg [.d (iD a.code), .d (iD a.session), .d (iD a.ahead), .own 2 a.held.length (zaK a.held) false]
structure Small (s:St):Prop where
 sess:s.sess.length<2^30
 locks:s.locks.length<2^30
 memos:s.memos.length<2^30
 line:∀k∈s.locks,k.line.length<2^30∧k.name.size<2^62
 held:∀m∈s.memos,zcu m.reply
abbrev zuC (l:List Sess) (gone:List Int):List Sess:=l.filter fun x=> !hasI gone x.client
theorem zuD {s:St} (h:Small s) (now lease:Int):(zuK s.sess now lease).length<2^30:=by
 unfold zuK
 split
 ·simp
 ·rw[List.length_map]
  exact Nat.lt_of_le_of_lt (List.length_filter_le ..) h.sess
abbrev zE4 (b:St) (x:Sess):Bool:= !((zaH b.sess x.client).any fun y=>y.num==x.num)
theorem zki (n:Int):CallOK prog 119 [.f (ai n)] (fun r o=>r=[rb (within n)]∧o=[]):=by
 refine zh func119 results119 ntmps119 call119 ?_
 simp only[f119,Option.getD]
 refine zL0 trivial ?_
 rfl
theorem zuE (s:St) (h:Small s) (hs:SS s.sess):CallOK prog 123 [.f (.agg s.lent)] (fun r o=>r=[rb (zix s)]∧o=[]):=by
 refine zh func123 results123 ntmps123 call123 ?_
 simp only[f123,Option.getD]
 have hL:=h.locks
 refine zL0 trivial ?_
 refine zaf (τ:=Nat) (fun i=>⟨(dd::ptq 1::dd::ab true::dq7 (al s.locks.length (zaj s.locks)::ai s.locks.length::ai i::zx6 [])),[(1,⟨2,[obq 1 [di s.time,di s.num,di s.token, .lent s.sess.length (za1 s.sess), .lent s.locks.length (zaj s.locks), .lent s.memos.length (zaM s.memos)],none,none,none,none,none,none]⟩),(5,⟨2,[]⟩),(8,⟨2,[]⟩),(19,⟨2,[]⟩),(22,⟨2,[]⟩)]⟩)
  (fun i=>i≤s.locks.length) (fun i=>(s.locks.drop i).all fun k=>(k.holder::k.line).all fun c=>(zaH s.sess c).isSome) (fun i=>s.locks.length - i) 0
  (Gh.canon [1] [5,8,19,22] [] zK rfl rfl) (Nat.zero_le _) ?_
 intro i hi0 hF K hK
 rw[List.drop_zero]at hF
 refine zw ?_
 refine zaa (fun hlt=> ?_) (fun hge=> ?_)
 ·have hi:i<s.locks.length:=by simpa using hlt
  have hat:=zbn hi
  have hw:=zai hi (by omega)
  have hli:=(h.line _ (List.getElem_mem hi)).1
  rw[List.drop_eq_getElem_cons hi,List.all_cons]at hF
  obtain⟨c,hc⟩:∃c,c=s.locks[i].holder::s.locks[i].line:=⟨_,rfl⟩
  have hcl:c.length=1+s.locks[i].line.length:=by rw[hc,List.length_cons];omega
  rw[←hc]at hF
  refine zL0 (I hat (I @zah (I @zaD zca))) ?_
  refine zaf (τ:=Nat) (fun j=>⟨(dd::ptq 1::dd::ab true::dq7 (al s.locks.length (zaj s.locks)::ai s.locks.length::ai i::dq8 (.one (.own ⟨19,1,1⟩ 0 c.length)::ai c.length::ai j::zAQ []))),[(1,⟨2,[obq 1 [di s.time,di s.num,di s.token, .lent s.sess.length (za1 s.sess), .lent s.locks.length (zaj s.locks), .lent s.memos.length (zaM s.memos)],none,none,none,none,none,none]⟩),(5,⟨2,[]⟩),(8,⟨2,[]⟩),(19,⟨2,[none,roq 1 1 (zaF c)]⟩),(22,⟨2,[]⟩)]⟩)
   (fun j=>j≤c.length) (fun j=>(c.drop j).all fun c=>(zaH s.sess c).isSome) (fun j=>c.length - j) 0
   (Gh.canon [1,19] [] [] (zk hcl) rfl (by rw[hc];rfl)) (Nat.zero_le _) ?_
  intro j hj0 hF2 K2 hK2
  rw[List.drop_zero]at hF2
  refine zw ?_
  refine zaa (fun hlt2=> ?_) (fun hge2=> ?_)
  ·have hj:j<c.length:=by simpa using hlt2
   have haj:=zcI hj
   have hwj:=zai hj (by omega)
   have hfi:=zxk s.sess hs (by have:=h.sess;omega) c[j]
   rw[List.drop_eq_getElem_cons hj,List.all_cons]at hF2
   cases hb:(zaH s.sess c[j]).isSome
   ·rw[hb]at hfi hF2
    rw[←hF2]at hF
    refine zL (I haj (I @zmd (I @List.map_cons.{0,0} (I @zaD zca)))) (hfi) ?_
    unfold zix
    rw[←hF]
    rfl
   ·rw[hb]at hfi hF2
    refine zL (I haj (I @zmd (I @List.map_cons.{0,0} (I @zaD zca)))) (hfi) ?_
    exact hK2 _ (j+1) (Gh.canon [1,19] [] [] (zk hwj) rfl rfl) hj (by rw[List.drop_eq_getElem_cons hj,List.all_cons,hb,Bool.true_and]) (by omega)
  ·have hj:j=c.length:=by
    have:¬(j:Int)<c.length:=by simpa using hge2
    omega
   rw[hj,List.drop_length,List.all_nil]at hF2
   rw[←hF2,Bool.true_and]at hF
   refine zL0 trivial ?_
   exact hK _ (i+1) (Gh.canon [1] [] [] (zk hw) rfl rfl) hi (by rw[List.drop_eq_getElem_cons hi,List.all_cons,←hc,←hF2,Bool.true_and]) (by omega)
 ·have hi:i=s.locks.length:=by
   have:¬(i:Int)<s.locks.length:=by simpa using hge
   omega
  rw[hi,List.drop_length,List.all_nil]at hF
  refine zL0 trivial ?_
  unfold zix
  rw[←hF]
set_option maxHeartbeats 1000000 in
theorem zmK (s:St) (h:Small s):CallOK prog 79 [.f (.agg s.lent)] (fun r o=>r=[rb (zdf s)]∧o=[]):=by
 refine zh func79 results79 ntmps79 call79 ?_
 simp only[f79,Option.getD]
 have w1:=zki s.time
 have w2:=zki s.num
 have w3:=zki s.token
 have hsr:=zoD s.sess h.sess
 have hlr:=zoC s.locks h.locks h.line
 have hmr:=zoA s.memos h.memos h.held
 have hns:=h.sess
 have hnl:=h.locks
 cases hA:(!within s.time|| !within s.num|| !within s.token|| !sessB s.sess|| !lockB s.locks|| !memoB s.memos)
 ·have hss:SS s.sess:=(zot.1 (by simp at hA;exact hA.1.1.2)).2.2.1
  have hrb:zdf s=((s.sess.all fun x=>decide (x.num≤s.num))&&(s.locks.all fun k=>decide (k.token≤s.token))&&zix s):=by
   unfold zdf
   simp at hA
   rw[hA.1.1.1.1.1,hA.1.1.1.1.2,hA.1.1.1.2,hA.1.1.2,hA.1.2,hA.2]
   rfl
  have hse:=zuE s h hss
  refine zL hA (I (w1) (I (w2) (I (w3) (I (hsr) (I (hlr) (hmr)))))) ?_
  refine zaf (τ:=Nat) (fun i=>⟨(dd::ptq 1::zec (al s.sess.length (za1 s.sess)::ai s.sess.length::ai i::zAs [])),[(1,⟨2,[obq 1 [di s.time,di s.num,di s.token, .lent s.sess.length (za1 s.sess), .lent s.locks.length (zaj s.locks), .lent s.memos.length (zaM s.memos)],none,none,none,none,none,none]⟩),(4,⟨2,[]⟩)]⟩)
   (fun i=>i≤s.sess.length) (fun i=>(s.sess.drop i).all fun x=>decide (x.num≤s.num)) (fun i=>s.sess.length - i) 0
   (Gh.canon [1] [4] [] zK rfl rfl) (Nat.zero_le _) ?_
  intro i hi0 hF K hK
  rw[List.drop_zero]at hF
  refine zw ?_
  refine zaa (fun hlt=> ?_) (fun hge=> ?_)
  ·have hi:i<s.sess.length:=by simpa using hlt
   have hat:=zco hi
   have hw:=zai hi (by omega)
   rw[List.drop_eq_getElem_cons hi,List.all_cons]at hF
   repeat'(first|exact zC|refine zq (I hat (I @zax zca)) ?_|(apply zaa<;>intro hb)|(apply I;exact zI)|(apply I<;>intro hg))
   ·rw[show decide (s.sess[i].num≤s.num)=false by simp at hb⊢;omega]at hF
    rw[hrb,←hF]
    rfl
   ·exact hK _ (i+1) (Gh.canon [1] [] [] (zk hw) rfl rfl) hi (by rw[List.drop_eq_getElem_cons hi,List.all_cons,show decide (s.sess[i].num≤s.num)=true by simp at hb⊢;omega,Bool.true_and]) (by omega)
  ·have hi:i=s.sess.length:=by
    have:¬(i:Int)<s.sess.length:=by simpa using hge
    omega
   rw[hi,List.drop_length,List.all_nil]at hF
   rw[←hF,Bool.true_and]at hrb
   refine zL0 trivial ?_
   refine zaf (τ:=Nat) (fun i=>⟨(dd::ptq 1::zs6 (zec (al s.locks.length (zaj s.locks)::ai s.locks.length::ai i::zAq []))),[(1,⟨2,[obq 1 [di s.time,di s.num,di s.token, .lent s.sess.length (za1 s.sess), .lent s.locks.length (zaj s.locks), .lent s.memos.length (zaM s.memos)],none,none,none,none,none,none]⟩),(4,⟨2,[]⟩),(6,⟨2,[]⟩)]⟩)
    (fun i=>i≤s.locks.length) (fun i=>(s.locks.drop i).all fun k=>decide (k.token≤s.token)) (fun i=>s.locks.length - i) 0
    (Gh.canon [1] [6] [] zK rfl rfl) (Nat.zero_le _) ?_
   intro i hi0 hF K hK
   rw[List.drop_zero]at hF
   refine zw ?_
   refine zaa (fun hlt=> ?_) (fun hge=> ?_)
   ·have hi:i<s.locks.length:=by simpa using hlt
    have hat:=zbn hi
    have hw:=zai hi (by omega)
    rw[List.drop_eq_getElem_cons hi,List.all_cons]at hF
    repeat'(first|exact zC|refine zq (I hat (I @zah zca)) ?_|(apply zaa<;>intro hb)|(apply I;exact zI)|(apply I<;>intro hg))
    ·rw[show decide (s.locks[i].token≤s.token)=false by simp at hb⊢;omega]at hF
     rw[hrb,←hF]
     rfl
    ·exact hK _ (i+1) (Gh.canon [1] [] [] (zk hw) rfl rfl) hi (by rw[List.drop_eq_getElem_cons hi,List.all_cons,show decide (s.locks[i].token≤s.token)=true by simp at hb⊢;omega,Bool.true_and]) (by omega)
   ·have hi:i=s.locks.length:=by
     have:¬(i:Int)<s.locks.length:=by simpa using hge
     omega
    rw[hi,List.drop_length,List.all_nil]at hF
    rw[←hF,Bool.true_and]at hrb
    rw[hrb]
    exact zW trivial (hse)
 ·have hrb:zdf s=false:=by
   unfold zdf
   simp at hA
   simp
   intros
   simp_all
  rw[hrb]
  exact zW hA (I (w1) (I (w2) (I (w3) (I (hsr) (I (hlr) (hmr))))))
abbrev zzY (s:St):AV:= .agg ((stE s).map C.d)
theorem zuz (l:List Lk) (name:ByteArray) (c t:Int) (w:Bool):(za6 l name c t w).1.length≤l.length+1:=by
 unfold za6
 cases zd1 l name with
 |none=>
  simp only
  split
  ·simp
  ·exact Nat.le_of_eq (zzZ zpK _)
 |some k=>
  simp only
  repeat' split
  all_goals simp
theorem zuA (l:List Lk) (name:ByteArray) (c t:Int):(zb8 l name c t).1.length≤l.length:=by
 unfold zb8
 cases zd1 l name with
 |none=>simp
 |some k=>
  simp only
  split
  ·unfold zhd
   split
   ·simp only;rw[List.length_eraseIdx];split<;>omega
   ·simp
  ·split<;>simp
theorem zuB (l:List Lk) (name:ByteArray) (c t:Int):0≤(zb8 l name c t).2.1∧(zb8 l name c t).2.1≤1:=by
 unfold zb8
 cases zd1 l name with
 |none=>simp
 |some k=>
  simp only
  split
  ·unfold zhd
   split<;>simp
  ·split<;>simp
theorem zuw {s:St} {r:Req} {x:Sess} (h1:(r.kind==1)=false) (hf:zaH s.sess r.client=some x) (hx:(x.num !=r.session)=false):
  zbH s r=if(r.kind==3||r.kind==4)=true then
  (if((za6 s.locks r.name r.client s.token (r.kind==3)).2.2==0)=true then(⟨s.time,s.num,s.token+1,(zcX s.sess r.client s.time).1,(za6 s.locks r.name r.client s.token (r.kind==3)).1,s.memos⟩,⟨(za6 s.locks r.name r.client s.token (r.kind==3)).2.2,x.num,0,zck (za6 s.locks r.name r.client s.token (r.kind==3)).1 r.client⟩)
  else if((za6 s.locks r.name r.client s.token (r.kind==3)).2.2==10)=true then(⟨s.time,s.num,s.token,(zcX s.sess r.client s.time).1,(za6 s.locks r.name r.client s.token (r.kind==3)).1,s.memos⟩,⟨(za6 s.locks r.name r.client s.token (r.kind==3)).2.2,x.num,(za6 s.locks r.name r.client s.token (r.kind==3)).2.1,zck (za6 s.locks r.name r.client s.token (r.kind==3)).1 r.client⟩)
  else(⟨s.time,s.num,s.token,(zcX s.sess r.client s.time).1,s.locks,s.memos⟩,⟨(za6 s.locks r.name r.client s.token (r.kind==3)).2.2,x.num,0,zck s.locks r.client⟩))
 else if(r.kind==5)=true then
  (if((zb8 s.locks r.name r.client s.token).2.2==0)=true then(⟨s.time,s.num,s.token+(zb8 s.locks r.name r.client s.token).2.1,(zcX s.sess r.client s.time).1,(zb8 s.locks r.name r.client s.token).1,s.memos⟩,⟨(zb8 s.locks r.name r.client s.token).2.2,x.num,0,zck (zb8 s.locks r.name r.client s.token).1 r.client⟩)
  else(⟨s.time,s.num,s.token,(zcX s.sess r.client s.time).1,s.locks,s.memos⟩,⟨(zb8 s.locks r.name r.client s.token).2.2,x.num,0,zck s.locks r.client⟩))
 else if(r.kind==6)=true then(zbS ⟨s.time,s.num,s.token,(zcX s.sess r.client s.time).1,s.locks,s.memos⟩ [r.client],⟨0,0,0,[]⟩)
 else(⟨s.time,s.num,s.token,(zcX s.sess r.client s.time).1,s.locks,s.memos⟩,⟨0,x.num,0,zck s.locks r.client⟩):=by
 unfold zbH
 rw[if_neg (by rw[h1];simp),hf]
 simp only
 rw[if_neg (by rw[hx];simp)]
 split
 ·by_cases e0:(za6 s.locks r.name r.client s.token (r.kind==3)).2.2=0
  ·rw[if_pos e0,if_neg (by rw[e0];decide),if_pos (by simpa using e0)]
  ·by_cases e10:(za6 s.locks r.name r.client s.token (r.kind==3)).2.2=10
   ·rw[if_neg e0,if_pos e10,if_pos e10,if_neg (by simpa using e0),if_pos (by simpa using e10)]
   ·rw[if_neg e0,if_neg e10,if_neg e10,if_neg (by simpa using e0),if_neg (by simpa using e10)]
 ·split
  ·by_cases e0:(zb8 s.locks r.name r.client s.token).2.2=0
   ·rw[if_pos e0,if_pos (by simpa using e0)]
   ·rw[if_neg e0,if_neg (by simpa using e0)]
  ·rfl
theorem zr9 {s:St} (h:Small s) (r:Req):(zbH s r).1.memos=s.memos:=by
 unfold zbH
 split
 ·unfold zdb
  split
  ·rfl
  ·split<;>rfl
 ·split
  ·rfl
  ·split
   ·rfl
   ·simp only
    repeat' split
    all_goals rfl
theorem ziu {b:ByteArray} (h:nameP b=true):b.size≤12:=by
 unfold nameP at h
 simp only[Bool.and_eq_true,decide_eq_true_eq]at h
 omega
theorem zux {r:Reply} (h:zbR r=true):zcu r:=by
 unfold zbR at h
 simp only[Bool.and_eq_true,Bool.not_eq_true',Bool.or_eq_false_iff,decide_eq_false_iff_not]at h
 obtain⟨⟨_,h1,_⟩,h2⟩:=h
 refine⟨by omega,fun g hg=> ?_⟩
 obtain⟨j,hj,rfl⟩:=List.getElem_of_mem hg
 have:=zcO.1 h2 j hj
 unfold zcG at this
 simp only[Bool.not_eq_true',Bool.or_eq_false_iff,Bool.not_eq_false']at this
 have:=ziu this.1.1.1
 omega
theorem ziv:∀{l:List Int} {a b:Int},l.Pairwise (·<·)→(∀x∈l,a≤x∧x<b)→(l.length:Int)≤max (b - a) 0
 |[],a,b,_,_=>by simp;omega
 |x::l,a,b,h,hb=>by
  have h':=List.pairwise_cons.1 h
  have hx:=hb x (List.mem_cons_self ..)
  have:=ziv (a:=x+1) (b:=b) h'.2 (fun y hy=>⟨by have:=h'.1 y hy;omega,(hb y (List.mem_cons_of_mem _ hy)).2⟩)
  simp only[List.length_cons];omega
theorem zdr {m:Memo} (h:answerB m=true):(0≤m.client∧m.client<8)∧(1≤m.seq∧m.seq≤zbE)∧zbR m.reply=true:=by
 unfold answerB at h
 simp only[Bool.and_eq_true,decide_eq_true_eq]at h
 exact⟨⟨h.1.1.1.1,h.1.1.1.2⟩,⟨h.1.1.2,h.1.2⟩,h.2⟩
theorem zcr {s:St} (h:RightS s):Small s:=by
 refine⟨by have:=h.sl;omega,by have:=h.ll;omega, ?_,fun k hk=> ?_,fun m hm=>zux (zdr (h.mok m hm)).2.2⟩
 ·have:=ziv (a:=0) (b:=8) (zq7.1 h.ms) (fun x hx=>by
   obtain⟨m,hm,rfl⟩:=List.mem_map.1 hx
   exact(zdr (h.mok m hm)).1)
  rw[List.length_map]at this
  omega
 ·obtain⟨a,_,b,_⟩:=h.lok k hk
  have h1:=(zb1.1 b).1
  have h2:=ziu (zc3.1 a).1
  omega
theorem zoq {l:List Lk} (hl:l.length<2^30) (hn:∀k∈l,k.name.size<2^62) (c:Int) (a b d:Int):zcu ⟨a,b,d,zck l c⟩:=by
 refine⟨?_,fun g hg=> ?_⟩
 ·unfold zck
  rw[List.length_map]
  exact Nat.lt_of_le_of_lt (List.length_filter_le ..) hl
 ·unfold zck at hg
  obtain⟨k,hk,rfl⟩:=List.mem_map.1 hg
  exact hn k (List.mem_filter.1 hk).1
theorem zuy (s:St) (r:Req):(zbH s r).2.held=[]∨(zbH s r).2.held=zck (zbH s r).1.locks r.client:=by
 unfold zbH
 split
 ·unfold zdb
  split
  ·exact .inr rfl
  ·split
   ·exact .inl rfl
   ·exact .inr rfl
 ·split
  ·exact .inl rfl
  ·split
   ·exact .inl rfl
   ·simp only
    repeat' split
    all_goals first|exact .inr rfl|exact .inl rfl
theorem zsa {s:St} (h:RightS s) {r:Req} (hm:Req.may r=true) (hN:s.num+1≤zbE) (hT:s.token+4≤zbE):zcu (zbH s r).2:=by
 have hs:=zcr (ziw h hm hN hT).rt
 rcases zuy s r with e|e
 ·exact⟨by rw[e];simp,fun g hg=>by rw[e]at hg;cases hg⟩
 ·have:=zoq hs.locks (fun k hk=>(hs.line k hk).2) r.client 0 0 0
  unfold zcu at this⊢
  rw[e]
  exact this
theorem zor {l:List Lk} (hs:SL l) (h:∀k∈l,zsf k=true) (c:Int):zbN (zcG (zck l c)) 0 (zck l c)=true:=by
 have hp:(zck l c).Pairwise fun a b=>zeF a.name b.name=true:=by
  unfold zck
  rw[List.pairwise_map]
  exact List.Pairwise.sublist (List.filter_sublist ..) hs
 rw[zcO]
 intro j hj
 rw[Nat.zero_add]
 have hm:∃k∈l,(zck l c)[j]=⟨k.name,k.token⟩:=by
  have:=List.getElem_mem hj
  unfold zck at this
  obtain⟨k,hk,e⟩:=List.mem_map.1 this
  exact⟨k,(List.mem_filter.1 hk).1,e.symm⟩
 obtain⟨k,hk,e⟩:=hm
 have ho:=zc3.1 (h k hk)
 unfold zcG
 simp only[Bool.not_eq_true',Bool.or_eq_false_iff,Bool.and_eq_false_iff,Bool.not_eq_false',decide_eq_false_iff_not]
 rw[e]
 refine⟨⟨⟨ho.1,by simp only;omega⟩,by simp only;omega⟩, ?_⟩
 by_cases h0:0<j
 ·right
  have:=zeP hp j hj h0
  unfold zsg
  rw[List.getElem?_eq_getElem (by omega)]
  rw[e]at this
  simpa using this
 ·left;omega
theorem zsb {s:St} (h:RightS s) {r:Req} (hm:Req.may r=true) (hN:s.num+1≤zbE) (hT:s.token+4≤zbE):
  ((zbH s r).2.held=[]∨(1≤(zbH s r).2.session∧(zbH s r).2.held=zck (zbH s r).1.locks r.client))∧(0≤(zbH s r).2.session∧(zbH s r).2.session≤zbE)∧(0≤(zbH s r).2.ahead∧(zbH s r).2.ahead≤3):=by
 have hH:zbE=2305843009213693952:=rfl
 obtain⟨hc,_,hnm⟩:=zmL hm
 have hnum:=h.num
 cases h1:r.kind==1
 ·cases hf:zaH s.sess r.client with
  |none=>
   have hd:zbH s r=(s,⟨9,0,0,[]⟩):=by unfold zbH;rw[if_neg (by rw[h1];simp),hf]
   rw[hd]
   exact⟨.inl rfl,by simp only;omega,by simp only;omega⟩
  |some x=>
   have hxn:=(zcA.1 (h.sok x (List.mem_of_find?_eq_some hf)).1).2.1
   cases hx:x.num !=r.session
   ·rw[zuw h1 hf hx]
    have h1':=zkl h hf
    have hf1:(zaH (zcX s.sess r.client s.time).1 r.client).isSome=true:=by rw[zhW h hf,zjn (zkk h hf).1,hf];rfl
    split
    ·rename_i hk
     obtain⟨_,_,_,ta⟩:=zlU (w:=r.kind==3) h1' (hnm hk) hc hf1 hT
     simp only at ta
     split
     ·exact⟨.inr ⟨hxn.1,rfl⟩,by simp only;omega,by simp only;omega⟩
     ·split
      ·exact⟨.inr ⟨hxn.1,rfl⟩,by simp only;omega,ta⟩
      ·exact⟨.inr ⟨hxn.1,rfl⟩,by simp only;omega,by simp only;omega⟩
    ·split
     ·split
      ·exact⟨.inr ⟨hxn.1,rfl⟩,by simp only;omega,by simp only;omega⟩
      ·exact⟨.inr ⟨hxn.1,rfl⟩,by simp only;omega,by simp only;omega⟩
     ·split
      ·exact⟨.inl rfl,by simp only;omega,by simp only;omega⟩
      ·exact⟨.inr ⟨hxn.1,rfl⟩,by simp only;omega,by simp only;omega⟩
   ·have hd:zbH s r=(s,⟨9,0,0,[]⟩):=by unfold zbH;rw[if_neg (by rw[h1];simp),hf];simp only;rw[if_pos hx]
    rw[hd]
    exact⟨.inl rfl,by simp only;omega,by simp only;omega⟩
 ·have hd:zbH s r=zdb s r.client:=by unfold zbH;rw[if_pos h1]
  rw[hd]
  unfold zdb
  cases hf:zaH s.sess r.client with
  |some x=>
   have hxn:=(zcA.1 (h.sok x (List.mem_of_find?_eq_some hf)).1).2.1
   exact⟨.inr ⟨hxn.1,rfl⟩,by simp only;omega,by simp only;omega⟩
  |none=>
   simp only
   split
   ·exact⟨.inl rfl,by simp only;omega,by simp only;omega⟩
   ·exact⟨.inr ⟨by simp only;omega,rfl⟩,by simp only;omega,by simp only;omega⟩
theorem zpG {s:St} (h:RightS s) {r:Req} (hm:Req.may r=true) (hN:s.num+1≤zbE) (hT:s.token+4≤zbE):answerB ⟨r.client,r.seq,(zbH s r).2⟩=true:=by
 obtain⟨hc,hq,_⟩:=zmL hm
 have hd:=ziw h hm hN hT
 obtain⟨h1,h2,h3⟩:=zsb h hm hN hT
 have hcl:=zdR.1 hc
 have hcode:=hd.code
 have hrt:=hd.rt
 unfold answerB zbR
 simp only[Bool.and_eq_true,decide_eq_true_eq,Bool.not_eq_true',Bool.or_eq_false_iff,Bool.and_eq_false_iff,decide_eq_false_iff_not]
 refine⟨⟨⟨⟨hcl.1,hcl.2⟩,hq.1⟩,hq.2⟩,⟨by omega, ?_⟩, ?_⟩
 ·rcases h1 with e|⟨e1,e2⟩
  ·rw[e];exact⟨by simp, .inr (by simp)⟩
  ·refine⟨?_, .inl (by simp;omega)⟩
   rw[e2]
   unfold zck
   rw[List.length_map]
   have:=List.length_filter_le (fun k:Lk=>k.holder==r.client) (zbH s r).1.locks
   have:=hrt.ll
   omega
 ·rcases h1 with e|⟨e1,e2⟩
  ·rw[e];rfl
  ·rw[e2]
   exact zor hrt.ls (fun k hk=>(hrt.lok k hk).1) _
theorem zpS {l:List Int} (h:lineB l=true):l.Nodup:=(zb1.1 h).2.2
theorem zxq {l:List Sess}:zuC l []=l:=List.filter_eq_self.2 fun _ _=>rfl
abbrev zoH (l:List Sess) (gone:List Int) (i:Nat):List Sess:=zuC l (gone.take i)
theorem zoI {l:List Sess} {gone:List Int} {i:Nat} (hi:i<gone.length):zoH l gone (i+1)=(zoH l gone i).filter fun x=>x.client !=gone[i]:=by
 unfold zoH zuC
 rw[List.filter_filter]
 congr 1
 funext x
 rw[←List.take_append_getElem hi]
 unfold hasI
 rw[List.any_append]
 simp only[List.any_cons,List.any_nil,Bool.or_false,Bool.not_or,bne]
 rw[Bool.and_comm]
theorem zu8 {l:List Sess} {gone:List Int} {i:Nat} (hi:i<gone.length) (hf:zaH (zoH l gone i) gone[i]=none):zoH l gone (i+1)=zoH l gone i:=by
 rw[zoI hi]
 refine List.filter_eq_self.2 fun x hx=> ?_
 have:=List.find?_eq_none.1 hf x hx
 simpa[bne]using this
set_option maxHeartbeats 2000000 in
theorem zoJ (s:St) (h:Small s) (hs:SL s.locks) (hnd:∀k∈s.locks,k.line.Nodup) (ht:0≤s.token∧s.token≤zbE) (gone:List Int) (hg:gone.length<2^30):
  CallOK prog 186 [.f (zzY s), .f (al gone.length (zaF gone))] (fun r o=>r=[zAy (zbS s gone)]∧o=[]):=by
 refine CallOK.nil ?_
 refine zh func186 results186 ntmps186 call186 ?_
 simp only[f186,Option.getD]
 have hH:zbE=2^61:=by decide
 have hdp:=zxt s.locks hs h.locks (fun k hk=>⟨(h.line k hk).1,hnd k hk⟩) gone hg s.token (by omega)
 obtain⟨⟨g1,g2⟩,_⟩:=zfe gone s.token (s.locks.map (zaq gone)) 0 (Int.le_refl _)
 have g1:0≤(zeW s.locks gone s.token).2:=g1
 have g2:(zeW s.locks gone s.token).2≤0+(s.locks.map (zaq gone)).length:=g2
 rw[List.length_map]at g2
 have hw:IntKind.i64.wrap (s.token+(zeW s.locks gone s.token).2)=s.token+(zeW s.locks gone s.token).2:=wrap64 (by omega) (by have:=h.locks;omega)
 obtain⟨LD,hD⟩:∃D,D=(zeW s.locks gone s.token).1:=⟨_,rfl⟩
 obtain⟨g,hg0⟩:∃g,g=(zeW s.locks gone s.token).2:=⟨_,rfl⟩
 have hwi:zbS s gone=⟨s.time,s.num,s.token+g,zuC s.sess gone,LD,s.memos⟩:=by rw[hD,hg0];rfl
 rw[hwi]
 rw[←hD,←hg0]at hdp
 rw[←hg0]at hw
 repeat'(first|exact zC|(with_reducible first|refine zbc 4 ?_|refine zaR 4 ?_|refine zaS 4 ?_)|refine zu hw ?_|(with_reducible first|refine zae _ _ ?_)|refine zx (hdp) ?_|(apply zaa<;>intro hb)|(apply I;exact zI)|(apply I<;>intro hg))
 refine zbl (zbr (Gh.sealF 2 4 (.own ⟨2,5,7⟩ 0 LD.length) ?_) ?_)
 ·exact zo0
 refine zf0 ?_
 refine zbr (Gh.dropRow 2 5 rfl) ?_
 simp only[zY,Nat.reduceSub,Nat.reduceEqDiff,Nat.reduceAdd,Nat.reduceMul,Nat.reduceLeDiff,Nat.reduceLT,Nat.reduceBEq,reduceCtorEq]
 refine zL0 trivial ?_
 rw[show(D.sl s.sess.length (za1 s.sess))=D.sl (zoH s.sess gone 0).length (za1 (zoH s.sess gone 0)) from by rw[show zoH s.sess gone 0=s.sess from zxq]]
 refine zaf (τ:=Nat) (fun i=>⟨(dd::al gone.length (zaF gone)::ptq 2::dd::ptq 4::dq2 (ai i::zAt [])),[(2,⟨2,[obq 1 [di s.time,di s.num,di (s.token+g), .d (.sl (zoH s.sess gone i).length (za1 (zoH s.sess gone i))), .d (.sl LD.length (zaj LD)), .d (.sl s.memos.length (zaM s.memos))],none,none,none,none,none,none]⟩),(4,⟨2,[obq 1 [di 0,di 0,di 0, .d (.v (.slice none 0 0)), .d (.v (.slice none 0 0)), .d (.v (.slice none 0 0))],none,none,none,none,none,none]⟩),(16,⟨2,[]⟩),(5,⟨2,[]⟩),(8,⟨2,[]⟩),(39,⟨2,[]⟩)]⟩)
  (fun i=>i≤gone.length) (fun _=>()) (fun i=>gone.length - i) 0
  (Gh.canon [2,4] [8,39] [] zK rfl rfl) (Nat.zero_le _) ?_
 intro i hi0 hF K hK
 refine zw ?_
 refine zaa (fun hlt=> ?_) (fun hge=> ?_)
 ·have hi:i<gone.length:=by simpa using hlt
  have hat:=zcI hi
  have hwi:=zai hi (by omega)
  have hcl:(zoH s.sess gone i).length<2^30:=Nat.lt_of_le_of_lt (List.length_filter_le ..) h.sess
  have hrc:=zvc (zoH s.sess gone i) hcl gone[i]
  cases hf:zaH (zoH s.sess gone i) gone[i]with
  |none=>
   rw[hf]at hrc
   simp only[Option.isSome_none,Bool.false_eq_true,if_false]at hrc
   have hz:((6:Int)==0)=false:=rfl
   refine zL (I hat (I hz (I @zaD zca))) (hrc) ?_
   rw[←zu8 hi hf]
   exact hK _ (i+1) (Gh.canon [2,4] [] [] (zk hwi) rfl rfl) hi rfl (by omega)
  |some x=>
   rw[hf]at hrc
   simp only[Option.isSome_some,if_true]at hrc
   rw[←zoI hi]at hrc
   have hz:((0:Int)==0)=true:=rfl
   repeat'(first|exact zC|(with_reducible first|refine zbc 6 ?_|refine zaR 6 ?_|refine zaS 6 ?_)|refine zu (I hat (I hz (I @zaD zca))) ?_|(with_reducible first|refine zae _ _ ?_)|refine zx (hrc) ?_|(apply zaa<;>intro hb)|(apply I;exact zI)|(apply I<;>intro hg))
   refine zbl (zbr (Gh.sealF 2 3 (.own ⟨2,4,2⟩ 0 (zoH s.sess gone (i+1)).length) ?_) ?_)
   ·exact zo0
   refine zf0 ?_
   refine zbr (Gh.dropRow 2 4 rfl) ?_
   simp only[zY,Nat.reduceSub,Nat.reduceEqDiff,Nat.reduceAdd,Nat.reduceMul,Nat.reduceLeDiff,Nat.reduceLT,Nat.reduceBEq,reduceCtorEq]
   refine zL0 trivial ?_
   exact hK _ (i+1) (Gh.canon [2,4] [] [] (zk hwi) rfl rfl) hi rfl (by omega)
 ·have hi:i=gone.length:=by
   have:¬(i:Int)<gone.length:=by simpa using hge
   omega
  subst hi
  have he:zoH s.sess gone gone.length=zuC s.sess gone:=by unfold zoH;rw[List.take_length]
  rw[he]
  repeat'(first|exact zC|refine zq0 ?_|(apply zaa<;>intro hb)|(apply I;exact zI)|(apply I<;>intro hg))
  simp[zaN,zcC,zaQ,zaA]
theorem zhi {s:St} (hr:RightS s):∀k∈s.locks,k.line.Nodup:=fun k hk=>zpS (hr.lok k hk).2.2.1
set_option maxHeartbeats 2000000 in
theorem zpR (s:St) (h:Small s) (hr:RightS s) (time lease:Int):CallOK prog 158 [.f (zzY s), .f (ai time), .f (ai lease)]
  (fun r o=>r=[zAy (zcP s time lease)]∧o=[]):=by
 refine zh func158 results158 ntmps158 call158 ?_
 simp only[f158,Option.getD]
 have h':Small {s with time:=zff s time}:=⟨h.sess,h.locks,h.memos,h.line,h.held⟩
 have htm:0≤zff s time∧zff s time≤zbE:=by
  have:=hr.time
  unfold zff
  split
  ·rename_i hc
   simp only[Bool.and_eq_true,decide_eq_true_eq]at hc
   omega
  ·exact this
 have hdu:=zz6 s.sess h.sess (zff s time) (max lease 1) (fun x hx=>(zcA.1 (hr.sok x hx).1).2.2) htm
 have hwo:=zoJ {s with time:=zff s time} h' hr.ls (fun k hk=>zhi hr k hk) hr.token (zuK s.sess (zff s time) (max lease 1)) (zuD h _ _)
 have hav:zcP s time lease=zbS {s with time:=zff s time} (zuK s.sess (zff s time) (max lease 1)):=rfl
 rw[hav]
 cases ha:decide (time>s.time)&&decide (time≤2305843009213693952)
 ·have htp:zff s time=s.time:=by unfold zff;rw[show(decide (time>s.time)&&decide (time≤zbE))=false from ha];rfl
  rw[htp]at hdu hwo⊢
  refine zL (I ha @rowI.eq_1) (I (hdu) (hwo)) ?_
  rfl
 ·have htp:zff s time=time:=by unfold zff;rw[show(decide (time>s.time)&&decide (time≤zbE))=true from ha];rfl
  rw[htp]at hdu hwo⊢
  refine zL (I ha @rowI.eq_1) (I (hdu) (hwo)) ?_
  rfl
theorem zm1 (s:St) (h:Small s) (c code ahead:Int):CallOK prog 208 [.f (zzY s), .f (ai c), .f (ai code), .f (ai ahead)]
  (fun r o=>r=[zmJ ⟨code,((zaH s.sess c).getD zfF).num,ahead,zck s.locks c⟩]∧o=[]):=by
 refine zh func208 results208 ntmps208 call208 ?_
 simp only[f208,Option.getD]
 have hfi:=zfu s.sess (by have:=h.sess;omega) c
 have hhe:=zxs s.locks h.locks c
 refine zL trivial (I (hfi) (hhe)) ?_
 rfl
theorem zlW {s:St} (hr:RightS s) {c:Int} (hc:isClient c=true) (hf:zaH s.sess c=none) (he:((zea s.sess c (s.num+1) s.time).2 !=0)=false):
  (zea s.sess c (s.num+1) s.time).1.length≤s.sess.length+1∧((zaH (zea s.sess c (s.num+1) s.time).1 c).getD zfF).num=s.num+1:=by
 by_cases hN:s.num+1≤zbE
 ·rw[zq5 hr hc hN hf]at he⊢
  split at he
  ·cases he
  ·rename_i h5
   rw[if_neg h5]
   refine⟨?_, ?_⟩
   ·simp only[List.length_append,List.length_cons,List.length_take,List.length_drop];omega
   ·have h1:(s.sess.take (zhe s.sess c)).find? (fun x=>x.client==c)=none:=List.find?_eq_none.2 fun x hx=>List.find?_eq_none.1 hf x (List.mem_of_mem_take hx)
    simp only[zaH,List.find?_append,h1,Option.none_or,List.find?_cons,beq_self_eq_true,Option.getD_some]
 ·exfalso
  have:zea s.sess c (s.num+1) s.time=([],1):=by
   unfold zea
   rw[if_pos (by simp only[Bool.or_eq_true,decide_eq_true_eq];omega)]
  rw[this]at he
  cases he
set_option maxHeartbeats 2000000 in
theorem zu7 (s:St) (h:Small s) (hr:RightS s) (c:Int) (hc:isClient c=true):CallOK prog 205 [.f (zzY s), .f (ai c)]
  (fun r o=>r=[zAy (zdb s c).1,zmJ (zdb s c).2]∧o=[]):=by
 refine CallOK.nil ?_
 refine zh func205 results205 ntmps205 call205 ?_
 simp only[f205,Option.getD]
 have hfi:=zfu s.sess (by have:=h.sess;omega) c
 have hn:=hr.num
 have hH:zbE=2^61:=by decide
 have hw:IntKind.i64.wrap (s.num+1)=s.num+1:=wrap64 (by omega) (by omega)
 cases hf:zaH s.sess c with
 |some x=>
  have hto:=zm1 s h c 7 0
  rw[hf]at hfi hto
  simp only[Option.isSome_some,Option.getD_some]at hfi hto
  have ho:zdb s c=(s,⟨7,x.num,0,zck s.locks c⟩):=by unfold zdb;rw[hf]
  rw[ho]
  repeat'(first|exact zC|refine zq0 ?_|refine zx (hfi) ?_|refine zx (hto) ?_|(apply zaa<;>intro hb)|(apply I;exact zI)|(apply I<;>intro hg))
  simp[zaN,zcC,zaQ,zaA]
 |none=>
  rw[hf]at hfi
  simp only[Option.isSome_none,Option.getD_none]at hfi
  have hop:=zxr s.sess hr.ss h.sess c (s.num+1) s.time hc (by omega) hr.time hf (zhV hr)
  have ho:zdb s c=if((zea s.sess c (s.num+1) s.time).2 !=0)=true then(s,⟨(zea s.sess c (s.num+1) s.time).2,0,0,[]⟩)else
    ({s with sess:=(zea s.sess c (s.num+1) s.time).1,num:=s.num+1},⟨0,s.num+1,0,zck s.locks c⟩):=by unfold zdb;rw[hf];simp only[bne_iff_ne]
  cases he:(zea s.sess c (s.num+1) s.time).2 !=0
  ·rw[he,if_neg (by simp)]at ho
   rw[ho]
   have hsm:Small {s with sess:=(zea s.sess c (s.num+1) s.time).1,num:=s.num+1}:=⟨by have:=(zlW hr hc hf he).1;have:=hr.sl;simp only;omega,h.locks,h.memos,h.line,h.held⟩
   have hto:=zm1 {s with sess:=(zea s.sess c (s.num+1) s.time).1,num:=s.num+1} hsm c 0 0
   have hfo:((zaH (zea s.sess c (s.num+1) s.time).1 c).getD zfF).num=s.num+1:=(zlW hr hc hf he).2
   simp only[hfo]at hto
   repeat'(first|exact zC|(with_reducible first|refine zbc 8 ?_|refine zaR 8 ?_|refine zaS 8 ?_)|refine zu (I hw he) ?_|(with_reducible first|refine zae _ _ ?_)|refine zx (hfi) ?_|refine zx (hop) ?_|(apply zaa<;>intro hb)|(apply I;exact zI)|(apply I<;>intro hg))
   refine zbl (zbr (Gh.sealF 2 3 (.own ⟨2,4,7⟩ 0 (zea s.sess c (s.num+1) s.time).1.length) ?_) ?_)
   ·exact zo0
   refine zf0 ?_
   repeat'(first|exact zC|refine zq hw ?_|refine zx (hto) ?_|(apply zaa<;>intro hb)|(apply I;exact zI)|(apply I<;>intro hg))
   simp[zaN,zcC,zaQ,zaA]
  ·rw[he,if_pos rfl]at ho
   rw[ho]
   repeat'(first|exact zC|refine zq (I hw he) ?_|refine zx (hfi) ?_|refine zx (hop) ?_|(apply zaa<;>intro hb)|(apply I;exact zI)|(apply I<;>intro hg))
   simp[zaN,zcC,zaQ,zaA]
theorem zso {s:St} (hr:RightS s) {c:Int} {x:Sess} (hf:zaH s.sess c=some x):((zaH (zcX s.sess c s.time).1 c).getD zfF).num=x.num∧(zcX s.sess c s.time).1.length=s.sess.length:=by
 rw[zhW hr hf]
 refine⟨?_,by simp only[List.length_set]⟩
 simp only
 rw[←zoK hr.ss hf]
 unfold zaH
 rw[List.find?_map,show((fun y:Sess=>y.client==c)∘zdS c s.time)=fun y:Sess=>y.client==c from by funext y;simp only[Function.comp,zdS];split<;>rfl]
 rw[show s.sess.find? (fun y:Sess=>y.client==c)=some x from hf]
 simp only[Option.map_some,Option.getD_some,zdS]
 split<;>rfl
theorem zsp {l:List Lk} {name:ByteArray} {c t:Int} {w:Bool} (hl:∀k∈l,k.line.length<2^30∧k.name.size<2^62) (hs:SL l) (hll:∀k∈l,k.line.length≤3) (hn:name.size<2^62):
  ∀k∈(za6 l name c t w).1,k.line.length<2^30∧k.name.size<2^62:=by
 intro k hk
 unfold za6 at hk
 cases hf:zd1 l name with
 |none=>
  rw[hf]at hk
  simp only at hk
  split at hk
  ·cases hk
  ·rcases List.mem_append.1 hk with hk|hk
   ·exact hl k (List.mem_of_mem_take hk)
   ·rcases List.mem_cons.1 hk with rfl|hk
    ·exact⟨by simp,hn⟩
    ·exact hl k (List.mem_of_mem_drop hk)
 |some k0=>
  rw[hf]at hk
  simp only at hk
  obtain⟨⟨hi,he⟩,_⟩:=zeb hs hf
  have hk0:=hl k0 (he▸List.getElem_mem hi)
  have hk3:=hll k0 (he▸List.getElem_mem hi)
  split at hk
  ·cases hk
  ·split at hk
   ·cases hk
   ·split at hk
    ·exact hl k hk
    ·split at hk
     ·cases hk
     ·rcases List.mem_or_eq_of_mem_set hk with hk|rfl
      ·exact hl k hk
      ·refine⟨?_,hk0.2⟩
       simp only
       unfold zkq
       repeat' split
       all_goals simp
       all_goals omega
theorem zsq {l:List Lk} {name:ByteArray} {c t:Int} (hl:∀k∈l,k.line.length<2^30∧k.name.size<2^62) (hs:SL l):
  ∀k∈(zb8 l name c t).1,k.line.length<2^30∧k.name.size<2^62:=by
 intro k hk
 unfold zb8 at hk
 cases hf:zd1 l name with
 |none=>rw[hf]at hk;cases hk
 |some k0=>
  rw[hf]at hk
  simp only at hk
  obtain⟨⟨hi,he⟩,_⟩:=zeb hs hf
  have hk0:=hl k0 (he▸List.getElem_mem hi)
  split at hk
  ·unfold zhd at hk
   split at hk
   ·exact hl k (List.mem_of_mem_eraseIdx hk)
   ·rename_i hline
    rcases List.mem_or_eq_of_mem_set hk with hk|rfl
    ·exact hl k hk
    ·refine⟨?_,hk0.2⟩
     have:=hk0.1
     rw[hline,List.length_cons]at this
     simp only;omega
  ·split at hk
   ·rcases List.mem_or_eq_of_mem_set hk with hk|rfl
    ·exact hl k hk
    ·refine⟨?_,hk0.2⟩
     simp only
     unfold zh1
     split
     ·exact hk0.1
     ·exact Nat.lt_of_le_of_lt (List.length_eraseIdx_le ..) hk0.1
   ·cases hk
theorem zsn {l:List Lk} {name:ByteArray} {c t:Int} {w:Bool} (h:((za6 l name c t w).2.2==10)=false):(za6 l name c t w).2.1=0:=by
 revert h
 unfold za6
 cases zd1 l name with
 |none=>simp only;split<;>intros<;>rfl
 |some k=>
  simp only
  repeat' split
  all_goals first|(intros;rfl)|(intro h;cases h)
set_option maxHeartbeats 8000000 in
theorem zxp (s:St) (h:Small s) (hr:RightS s) (r:Req) (hro:r.ok) (hm:Req.may r=true):CallOK prog 190 [.f (zzY s), .f (.agg (r.enc.map C.d))]
  (fun x o=>x=[zAy (zbH s r).1,zmJ (zbH s r).2]∧o=[]):=by
 refine CallOK.nil ?_
 refine zh func190 results190 ntmps190 call190 ?_
 simp only[f190,Option.getD]
 obtain⟨hc,_,hnm⟩:=zmL hm
 have hfi:=zfu s.sess (by have:=h.sess;omega) r.client
 have hT:=hr.token
 have hH:zbE=2^61:=by decide
 have hll:∀k∈s.locks,k.line.length<2^30:=fun k hk=>(h.line k hk).1
 have hl3:∀k∈s.locks,k.line.length≤3:=fun k hk=>(zb1.1 (hr.lok k hk).2.2.1).1
 have hlf:∀k∈s.locks,k.line.length<2^30∧k.line.Nodup:=fun k hk=>⟨hll k hk,zhi hr k hk⟩
 cases h1:r.kind==1
 ·cases hf:zaH s.sess r.client with
  |none=>
   rw[hf]at hfi
   simp only[Option.isSome_none,Option.getD_none]at hfi
   have hd:zbH s r=(s,⟨9,0,0,[]⟩):=by unfold zbH;rw[if_neg (by rw[h1];simp),hf]
   rw[hd]
   repeat'(first|exact zC|refine zq h1 ?_|refine zx (hfi) ?_|(apply zaa<;>intro hb)|(apply I;exact zI)|(apply I<;>intro hg))
   all_goals simp[zaN,zcC,zaQ,zaA]
  |some x=>
   rw[hf]at hfi
   simp only[Option.isSome_some,Option.getD_some]at hfi
   cases hx:x.num !=r.session
   ·have hrn:=zvb s.sess hr.ss h.sess r.client s.time hr.time (by rw[hf];rfl)
    have hwt:IntKind.i64.wrap (s.token+1)=s.token+1:=wrap64 (by omega) (by omega)
    obtain⟨hrf,hrl⟩:=zso hr hf
    obtain⟨S1,hS1⟩:∃S1,S1=(zcX s.sess r.client s.time).1:=⟨_,rfl⟩
    rw[←hS1]at hrf hrl
    have hsm:∀(t:Int) (L:List Lk),L.length<2^30→(∀k∈L,k.line.length<2^30∧k.name.size<2^62)→Small ⟨s.time,s.num,t,S1,L,s.memos⟩:=fun t L h1 h2=>⟨by simp only;have:=h.sess;omega,h1,h.memos,h2,h.held⟩
    have hto:∀(t:Int) (L:List Lk) (code ahead:Int),L.length<2^30→(∀k∈L,k.line.length<2^30∧k.name.size<2^62)→CallOK prog 208 [.f (zzY ⟨s.time,s.num,t,S1,L,s.memos⟩), .f (ai r.client), .f (ai code), .f (ai ahead)]
      (fun y o=>y=[zmJ ⟨code,x.num,ahead,zck L r.client⟩]∧o=[]):=fun t L code ahead h1 h2=>by
     have:=zm1 ⟨s.time,s.num,t,S1,L,s.memos⟩ (hsm t L h1 h2) r.client code ahead
     simp only[hrf]at this
     exact this
    have hd0:zbH s r=if(r.kind==3||r.kind==4)=true then
      (if((za6 s.locks r.name r.client s.token (r.kind==3)).2.2==0)=true then(⟨s.time,s.num,s.token+1,S1,(za6 s.locks r.name r.client s.token (r.kind==3)).1,s.memos⟩,⟨(za6 s.locks r.name r.client s.token (r.kind==3)).2.2,x.num,0,zck (za6 s.locks r.name r.client s.token (r.kind==3)).1 r.client⟩)
      else if((za6 s.locks r.name r.client s.token (r.kind==3)).2.2==10)=true then(⟨s.time,s.num,s.token,S1,(za6 s.locks r.name r.client s.token (r.kind==3)).1,s.memos⟩,⟨(za6 s.locks r.name r.client s.token (r.kind==3)).2.2,x.num,(za6 s.locks r.name r.client s.token (r.kind==3)).2.1,zck (za6 s.locks r.name r.client s.token (r.kind==3)).1 r.client⟩)
      else(⟨s.time,s.num,s.token,S1,s.locks,s.memos⟩,⟨(za6 s.locks r.name r.client s.token (r.kind==3)).2.2,x.num,0,zck s.locks r.client⟩))
     else if(r.kind==5)=true then
      (if((zb8 s.locks r.name r.client s.token).2.2==0)=true then(⟨s.time,s.num,s.token+(zb8 s.locks r.name r.client s.token).2.1,S1,(zb8 s.locks r.name r.client s.token).1,s.memos⟩,⟨(zb8 s.locks r.name r.client s.token).2.2,x.num,0,zck (zb8 s.locks r.name r.client s.token).1 r.client⟩)
      else(⟨s.time,s.num,s.token,S1,s.locks,s.memos⟩,⟨(zb8 s.locks r.name r.client s.token).2.2,x.num,0,zck s.locks r.client⟩))
     else if(r.kind==6)=true then(zbS ⟨s.time,s.num,s.token,S1,s.locks,s.memos⟩ [r.client],⟨0,0,0,[]⟩)
     else(⟨s.time,s.num,s.token,S1,s.locks,s.memos⟩,⟨0,x.num,0,zck s.locks r.client⟩):=by
     rw[hS1]
     unfold zbH
     rw[if_neg (by rw[h1];simp),hf]
     simp only
     rw[if_neg (by rw[hx];simp)]
     split
     ·by_cases e0:(za6 s.locks r.name r.client s.token (r.kind==3)).2.2=0
      ·rw[if_pos e0,if_neg (by rw[e0];decide),if_pos (by simpa using e0)]
      ·by_cases e10:(za6 s.locks r.name r.client s.token (r.kind==3)).2.2=10
       ·rw[if_neg e0,if_pos e10,if_pos e10,if_neg (by simpa using e0),if_pos (by simpa using e10)]
       ·rw[if_neg e0,if_neg e10,if_neg e10,if_neg (by simpa using e0),if_neg (by simpa using e10)]
     ·split
      ·by_cases e0:(zb8 s.locks r.name r.client s.token).2.2=0
       ·rw[if_pos e0,if_pos (by simpa using e0)]
       ·rw[if_neg e0,if_neg (by simpa using e0)]
      ·rfl
    rw[←hS1]at hrn
    have htl:=zuz s.locks r.name r.client s.token (r.kind==3)
    have hfl:=zuA s.locks r.name r.client s.token
    have hnl:=hr.ll
    have htn:=zsp (name:=r.name) (c:=r.client) (t:=s.token) (w:=r.kind==3) h.line hr.ls hl3 hro.2.2.2.2
    have hfn:=zsq (name:=r.name) (c:=r.client) (t:=s.token) h.line hr.ls
    have hta:=zxv s.locks hr.ls h.locks hll r.name r.client s.token (by omega) hc (r.kind==3)
    have hfr:=zrg s.locks hr.ls h.locks hlf r.name r.client s.token (by omega)
    have htz:=zsn (l:=s.locks) (name:=r.name) (c:=r.client) (t:=s.token) (w:=r.kind==3)
    cases h3:r.kind==3
    ·rw[h3]at hta htl htn htz
     rw[h3,Bool.false_or]at hd0
     cases h4:r.kind==4
     ·rw[h4,if_neg (by simp)]at hd0
      cases h5:r.kind==5
      ·rw[h5,if_neg (by simp)]at hd0
       cases h6:r.kind==6
       ·rw[h6,if_neg (by simp)]at hd0
        rw[hd0]
        have ht1:=hto s.token s.locks 0 0 h.locks h.line
        repeat'(first|exact zC|(with_reducible first|refine zbc 8 ?_|refine zaR 8 ?_|refine zaS 8 ?_)|refine zu (I h1 (I hx (I h3 (I h4 (I h5 h6))))) ?_|(with_reducible first|refine zae _ _ ?_)|refine zx (hfi) ?_|refine zx (hrn) ?_|(apply zaa<;>intro hb)|(apply I;exact zI)|(apply I<;>intro hg))
        refine zbl (zbr (Gh.sealF 2 3 (.own ⟨2,4,7⟩ 0 S1.length) ?_) ?_)
        ·exact zo0
        refine zf0 ?_
        repeat'(first|exact zC|refine zq (I h1 (I hx (I h3 (I h4 (I h5 h6))))) ?_|refine zx (ht1) ?_|(apply zaa<;>intro hb)|(apply I;exact zI)|(apply I<;>intro hg))
        simp[zaN,zcC,zaQ,zaA]
       ·rw[h6,if_pos rfl]at hd0
        rw[hd0]
        have hwo:=zoJ ⟨s.time,s.num,s.token,S1,s.locks,s.memos⟩ (hsm s.token s.locks h.locks h.line) hr.ls (fun k hk=>zhi hr k hk) hr.token [r.client] (by simp)
        repeat'(first|exact zC|(with_reducible first|refine zbc 8 ?_|refine zaR 8 ?_|refine zaS 8 ?_)|refine zu (I h1 (I hx (I h3 (I h4 (I h5 h6))))) ?_|(with_reducible first|refine zae _ _ ?_)|refine zx (hfi) ?_|refine zx (hrn) ?_|(apply zaa<;>intro hb)|(apply I;exact zI)|(apply I<;>intro hg))
        refine zbl (zbr (Gh.sealF 2 3 (.own ⟨2,4,7⟩ 0 S1.length) ?_) ?_)
        ·exact zo0
        refine zf0 ?_
        repeat'(first|exact zC|refine zq (I h1 (I hx (I h3 (I h4 (I h5 h6))))) ?_|refine zx (hwo) ?_|(apply zaa<;>intro hb)|(apply I;exact zI)|(apply I<;>intro hg))
        simp[zaN,zcC,zaQ,zaA]
      ·rw[h5,if_pos rfl]at hd0
       have hgi:=zuB s.locks r.name r.client s.token
       generalize hT0:zb8 s.locks r.name r.client s.token=T at*
       cases e0:T.2.2==0
       ·rw[e0,if_neg (by simp)]at hd0
        rw[hd0]
        have ht1:=hto s.token s.locks T.2.2 0 h.locks h.line
        repeat'(first|exact zC|(with_reducible first|refine zbc 8 ?_|refine zaR 8 ?_|refine zaS 8 ?_)|refine zu (I h1 (I hx (I h3 (I h4 (I h5 e0))))) ?_|(with_reducible first|refine zae _ _ ?_)|refine zx (hfi) ?_|refine zx (hrn) ?_|(apply zaa<;>intro hb)|(apply I;exact zI)|(apply I<;>intro hg))
        refine zbl (zbr (Gh.sealF 2 3 (.own ⟨2,4,7⟩ 0 S1.length) ?_) ?_)
        ·exact zo0
        refine zf0 ?_
        repeat'(first|exact zC|refine zq (I h1 (I hx (I h3 (I h4 (I h5 e0))))) ?_|refine zx (hfr) ?_|refine zx (ht1) ?_|(apply zaa<;>intro hb)|(apply I;exact zI)|(apply I<;>intro hg))
        simp[zaN,zcC,zaQ,zaA]
       ·rw[e0,if_pos rfl]at hd0
        have hwf:IntKind.i64.wrap (s.token+T.2.1)=s.token+T.2.1:=wrap64 (by omega) (by omega)
        rw[hd0]
        have ht1:=hto (s.token+T.2.1) T.1 T.2.2 0 (by omega) hfn
        repeat'(first|exact zC|(with_reducible first|refine zbc 8 ?_|refine zaR 8 ?_|refine zaS 8 ?_)|refine zu (I h1 (I hx (I h3 (I h4 (I h5 e0))))) ?_|(with_reducible first|refine zae _ _ ?_)|refine zx (hfi) ?_|refine zx (hrn) ?_|(apply zaa<;>intro hb)|(apply I;exact zI)|(apply I<;>intro hg))
        refine zbl (zbr (Gh.sealF 2 3 (.own ⟨2,4,7⟩ 0 S1.length) ?_) ?_)
        ·exact zo0
        refine zf0 ?_
        repeat'(first|exact zC|(with_reducible first|refine zbc 22 ?_|refine zaR 22 ?_|refine zaS 22 ?_)|refine zu (I h1 (I hx (I h3 (I h4 (I h5 (I e0 hwf)))))) ?_|(with_reducible first|refine zae _ _ ?_)|refine zx (hfr) ?_|(apply zaa<;>intro hb)|(apply I;exact zI)|(apply I<;>intro hg))
        refine zbl (zbr (Gh.sealF 2 4 (.own ⟨2,5,8⟩ 0 T.1.length) ?_) ?_)
        ·exact zo0
        refine zf0 ?_
        repeat'(first|exact zC|refine zq (I h1 (I hx (I h3 (I h4 (I h5 (I e0 hwf)))))) ?_|refine zx (ht1) ?_|(apply zaa<;>intro hb)|(apply I;exact zI)|(apply I<;>intro hg))
        simp[zaN,zcC,zaQ,zaA]
     ·rw[h4,if_pos rfl]at hd0
      generalize hT0:za6 s.locks r.name r.client s.token false=T at*
      cases e0:T.2.2==0
      ·cases e10:T.2.2==10
       ·rw[e0,if_neg (by simp),e10,if_neg (by simp)]at hd0
        rw[hd0]
        have ht1:=hto s.token s.locks T.2.2 0 h.locks h.line
        have hz:=htz e10
        rw[hz]at hta
        repeat'(first|exact zC|(with_reducible first|refine zbc 8 ?_|refine zaR 8 ?_|refine zaS 8 ?_)|refine zu (I h1 (I hx (I h3 (I h4 (I e0 e10))))) ?_|(with_reducible first|refine zae _ _ ?_)|refine zx (hfi) ?_|refine zx (hrn) ?_|(apply zaa<;>intro hb)|(apply I;exact zI)|(apply I<;>intro hg))
        refine zbl (zbr (Gh.sealF 2 3 (.own ⟨2,4,7⟩ 0 S1.length) ?_) ?_)
        ·exact zo0
        refine zf0 ?_
        repeat'(first|exact zC|refine zq (I h1 (I hx (I h3 (I h4 (I e0 (I e10 hwt)))))) ?_|refine zx (hta) ?_|refine zx (ht1) ?_|(apply zaa<;>intro hb)|(apply I;exact zI)|(apply I<;>intro hg))
        simp[zaN,zcC,zaQ,zaA]
       ·rw[e0,if_neg (by simp),e10,if_pos rfl]at hd0
        rw[hd0]
        have ht1:=hto s.token T.1 T.2.2 T.2.1 (by omega) htn
        repeat'(first|exact zC|(with_reducible first|refine zbc 8 ?_|refine zaR 8 ?_|refine zaS 8 ?_)|refine zu (I h1 (I hx (I h3 (I h4 (I e0 e10))))) ?_|(with_reducible first|refine zae _ _ ?_)|refine zx (hfi) ?_|refine zx (hrn) ?_|(apply zaa<;>intro hb)|(apply I;exact zI)|(apply I<;>intro hg))
        refine zbl (zbr (Gh.sealF 2 3 (.own ⟨2,4,7⟩ 0 S1.length) ?_) ?_)
        ·exact zo0
        refine zf0 ?_
        repeat'(first|exact zC|(with_reducible first|refine zbc 16 ?_|refine zaR 16 ?_|refine zaS 16 ?_)|refine zu (I h1 (I hx (I h3 (I h4 (I e0 (I e10 hwt)))))) ?_|(with_reducible first|refine zae _ _ ?_)|refine zx (hta) ?_|(apply zaa<;>intro hb)|(apply I;exact zI)|(apply I<;>intro hg))
        refine zbl (zbr (Gh.sealF 2 4 (.own ⟨2,5,8⟩ 0 T.1.length) ?_) ?_)
        ·exact zo0
        refine zf0 ?_
        repeat'(first|exact zC|refine zq (I h1 (I hx (I h3 (I h4 (I e0 (I e10 hwt)))))) ?_|refine zx (ht1) ?_|(apply zaa<;>intro hb)|(apply I;exact zI)|(apply I<;>intro hg))
        simp[zaN,zcC,zaQ,zaA]
      ·rw[e0,if_pos rfl]at hd0
       rw[hd0]
       have ht1:=hto (s.token+1) T.1 T.2.2 0 (by omega) htn
       have hz:=htz (by have:T.2.2=0:=(by simpa using e0);rw[this];rfl)
       rw[hz]at hta
       repeat'(first|exact zC|(with_reducible first|refine zbc 8 ?_|refine zaR 8 ?_|refine zaS 8 ?_)|refine zu (I h1 (I hx (I h3 (I h4 e0)))) ?_|(with_reducible first|refine zae _ _ ?_)|refine zx (hfi) ?_|refine zx (hrn) ?_|(apply zaa<;>intro hb)|(apply I;exact zI)|(apply I<;>intro hg))
       refine zbl (zbr (Gh.sealF 2 3 (.own ⟨2,4,7⟩ 0 S1.length) ?_) ?_)
       ·exact zo0
       refine zf0 ?_
       repeat'(first|exact zC|(with_reducible first|refine zbc 16 ?_|refine zaR 16 ?_|refine zaS 16 ?_)|refine zu (I h1 (I hx (I h3 (I h4 (I e0 hwt))))) ?_|(with_reducible first|refine zae _ _ ?_)|refine zx (hta) ?_|(apply zaa<;>intro hb)|(apply I;exact zI)|(apply I<;>intro hg))
       refine zbl (zbr (Gh.sealF 2 4 (.own ⟨2,5,8⟩ 0 T.1.length) ?_) ?_)
       ·exact zo0
       refine zf0 ?_
       repeat'(first|exact zC|refine zq (I h1 (I hx (I h3 (I h4 (I e0 hwt))))) ?_|refine zx (ht1) ?_|(apply zaa<;>intro hb)|(apply I;exact zI)|(apply I<;>intro hg))
       simp[zaN,zcC,zaQ,zaA]
    ·rw[h3]at hta htl htn htz
     rw[h3,Bool.true_or,if_pos rfl]at hd0
     generalize hT0:za6 s.locks r.name r.client s.token true=T at*
     cases e0:T.2.2==0
     ·cases e10:T.2.2==10
      ·rw[e0,if_neg (by simp),e10,if_neg (by simp)]at hd0
       rw[hd0]
       have ht1:=hto s.token s.locks T.2.2 0 h.locks h.line
       have hz:=htz e10
       rw[hz]at hta
       repeat'(first|exact zC|(with_reducible first|refine zbc 8 ?_|refine zaR 8 ?_|refine zaS 8 ?_)|refine zu (I h1 (I hx (I h3 (I e0 e10)))) ?_|(with_reducible first|refine zae _ _ ?_)|refine zx (hfi) ?_|refine zx (hrn) ?_|(apply zaa<;>intro hb)|(apply I;exact zI)|(apply I<;>intro hg))
       refine zbl (zbr (Gh.sealF 2 3 (.own ⟨2,4,7⟩ 0 S1.length) ?_) ?_)
       ·exact zo0
       refine zf0 ?_
       repeat'(first|exact zC|refine zq (I h1 (I hx (I h3 (I e0 (I e10 hwt))))) ?_|refine zx (hta) ?_|refine zx (ht1) ?_|(apply zaa<;>intro hb)|(apply I;exact zI)|(apply I<;>intro hg))
       simp[zaN,zcC,zaQ,zaA]
      ·rw[e0,if_neg (by simp),e10,if_pos rfl]at hd0
       rw[hd0]
       have ht1:=hto s.token T.1 T.2.2 T.2.1 (by omega) htn
       repeat'(first|exact zC|(with_reducible first|refine zbc 8 ?_|refine zaR 8 ?_|refine zaS 8 ?_)|refine zu (I h1 (I hx (I h3 (I e0 e10)))) ?_|(with_reducible first|refine zae _ _ ?_)|refine zx (hfi) ?_|refine zx (hrn) ?_|(apply zaa<;>intro hb)|(apply I;exact zI)|(apply I<;>intro hg))
       refine zbl (zbr (Gh.sealF 2 3 (.own ⟨2,4,7⟩ 0 S1.length) ?_) ?_)
       ·exact zo0
       refine zf0 ?_
       repeat'(first|exact zC|(with_reducible first|refine zbc 16 ?_|refine zaR 16 ?_|refine zaS 16 ?_)|refine zu (I h1 (I hx (I h3 (I e0 (I e10 hwt))))) ?_|(with_reducible first|refine zae _ _ ?_)|refine zx (hta) ?_|(apply zaa<;>intro hb)|(apply I;exact zI)|(apply I<;>intro hg))
       refine zbl (zbr (Gh.sealF 2 4 (.own ⟨2,5,8⟩ 0 T.1.length) ?_) ?_)
       ·exact zo0
       refine zf0 ?_
       repeat'(first|exact zC|refine zq (I h1 (I hx (I h3 (I e0 (I e10 hwt))))) ?_|refine zx (ht1) ?_|(apply zaa<;>intro hb)|(apply I;exact zI)|(apply I<;>intro hg))
       simp[zaN,zcC,zaQ,zaA]
     ·rw[e0,if_pos rfl]at hd0
      rw[hd0]
      have ht1:=hto (s.token+1) T.1 T.2.2 0 (by omega) htn
      have hz:=htz (by have:T.2.2=0:=(by simpa using e0);rw[this];rfl)
      rw[hz]at hta
      repeat'(first|exact zC|(with_reducible first|refine zbc 8 ?_|refine zaR 8 ?_|refine zaS 8 ?_)|refine zu (I h1 (I hx (I h3 e0))) ?_|(with_reducible first|refine zae _ _ ?_)|refine zx (hfi) ?_|refine zx (hrn) ?_|(apply zaa<;>intro hb)|(apply I;exact zI)|(apply I<;>intro hg))
      refine zbl (zbr (Gh.sealF 2 3 (.own ⟨2,4,7⟩ 0 S1.length) ?_) ?_)
      ·exact zo0
      refine zf0 ?_
      repeat'(first|exact zC|(with_reducible first|refine zbc 16 ?_|refine zaR 16 ?_|refine zaS 16 ?_)|refine zu (I h1 (I hx (I h3 (I e0 hwt)))) ?_|(with_reducible first|refine zae _ _ ?_)|refine zx (hta) ?_|(apply zaa<;>intro hb)|(apply I;exact zI)|(apply I<;>intro hg))
      refine zbl (zbr (Gh.sealF 2 4 (.own ⟨2,5,8⟩ 0 T.1.length) ?_) ?_)
      ·exact zo0
      refine zf0 ?_
      repeat'(first|exact zC|refine zq (I h1 (I hx (I h3 (I e0 hwt)))) ?_|refine zx (ht1) ?_|(apply zaa<;>intro hb)|(apply I;exact zI)|(apply I<;>intro hg))
      simp[zaN,zcC,zaQ,zaA]
   ·have hd:zbH s r=(s,⟨9,0,0,[]⟩):=by unfold zbH;rw[if_neg (by rw[h1];simp),hf];simp only;rw[if_pos hx]
    rw[hd]
    repeat'(first|exact zC|refine zq (I h1 hx) ?_|refine zx (hfi) ?_|(apply zaa<;>intro hb)|(apply I;exact zI)|(apply I<;>intro hg))
    all_goals simp[zaN,zcC,zaQ,zaA]
 ·have hop:=zu7 s h hr r.client hc
  have hd:zbH s r=zdb s r.client:=by unfold zbH;rw[if_pos h1]
  rw[hd]
  repeat'(first|exact zC|refine zq h1 ?_|refine zx (hfi) ?_|refine zx (hop) ?_|(apply zaa<;>intro hb)|(apply I;exact zI)|(apply I<;>intro hg))
  all_goals simp[zaN,zcC,zaQ,zaA]
def zav (n:Int):Prop:=0≤n∧n<256
theorem zdq {n:Int} (h:zav n):IntKind.i64.wrap n=n:=by have:=h;unfold zav at this;exact wrap64 (by omega) (by omega)
theorem zd9 {n:Int} (h:0≤n) (k:Int):n.tmod k=n % k:=Int.tmod_eq_emod_of_nonneg h
def zBq:List ByteArray:=[⟨#[97]⟩,⟨#[98]⟩,⟨#[99]⟩,⟨#[100]⟩,⟨#[107,101,121,45,49]⟩,⟨#[116,104,101,45,108,97,115,116,45,111,110,101]⟩]
def zop (n:Int):ByteArray:=(zBq[(n % 6).toNat]?).getD .empty
theorem six (n:Int):n % 6=0∨n % 6=1∨n % 6=2∨n % 6=3∨n % 6=4∨n % 6=5:=by omega
theorem zuu (n:Int) (hn:zav n):CallOK prog 157 [.f (au n)] (fun r o=>r=[.one (.d (sD (zop n)))]∧o=[]):=by
 refine zh func157 results157 ntmps157 call157 ?_
 simp only[f157,Option.getD]
 have hw:=zdq hn
 have ht:=zd9 hn.1 6
 unfold zop
 rcases six n with h|h|h|h|h|h
 all_goals
  rw[h]at ht⊢
  repeat'(first|(with_reducible first|refine zae _ _ ?_|refine zcm ?_|refine zcn ?_)|rw[zbP]|simp only[hw,ht,Int.reduceToNat,List.drop_succ_cons,List.drop_zero,zY,Int.reduceEq,Int.reduceBEq,Int.reduceBNe,Nat.reduceSub,Nat.reduceEqDiff,Nat.reduceAdd,Nat.reduceMul,Nat.reduceLeDiff,Nat.reduceLT,Nat.reduceBEq,reduceCtorEq]|refine zbb ?_|refine zaa (fun hb=> ?_) (fun hb=> ?_)|(refine And.intro ?_ ?_;exact zI)|refine And.intro (fun hg=> ?_) (fun hg=> ?_)|exact zC|fail)
  rfl
def zk0 (a:Int):Int:=1+a % 6
def zr7 (a b:Int):Int:=if zk0 a=1 then 0 else 1+b % 7
def zuv (a c:Int):ByteArray:=if(zk0 a==3||zk0 a==4||zk0 a==5)=true then zop c else .empty
theorem zzV (a b c:Int) (ha:zav a) (hb:zav b) (hc:zav c):CallOK prog 108 [.f (au a), .f (au b), .f (au c)] (fun r o=>r=[.agg [.d (iD (zk0 a)), .d (iD (zr7 a b)), .d (sD (zuv a c))]]∧o=[]):=by
 refine zh func108 results108 ntmps108 call108 ?_
 simp only[f108,Option.getD]
 have hnm:=zuu c hc
 have hwa:=zdq ha
 have hwb:=zdq hb
 have hta:=zd9 ha.1 6
 have htb:=zd9 hb.1 7
 have hws:IntKind.i64.wrap (1+b % 7)=1+b % 7:=wrap64 (by omega) (by omega)
 unfold zuv zr7 zk0
 have w1:IntKind.i64.wrap 1=1:=rfl
 have w2:IntKind.i64.wrap 2=2:=rfl
 have w3:IntKind.i64.wrap 3=3:=rfl
 have w4:IntKind.i64.wrap 4=4:=rfl
 have w5:IntKind.i64.wrap 5=5:=rfl
 have w6:IntKind.i64.wrap 6=6:=rfl
 rcases six a with h|h|h|h|h|h
 all_goals
  rw[h]at hta⊢
  repeat'(first|(with_reducible first|refine zae _ _ ?_|refine zcm ?_|refine zcn ?_)|rw[zbP]|simp only[hwa,hwb,hta,htb,hws,w1,w2,w3,w4,w5,w6,Int.reduceAdd,Int.reduceEq,Int.reduceBEq,zY,Int.reduceEq,Int.reduceBEq,Int.reduceBNe,Nat.reduceSub,Nat.reduceEqDiff,Nat.reduceAdd,Nat.reduceMul,Nat.reduceLeDiff,Nat.reduceLT,Nat.reduceBEq,reduceCtorEq]|((first|((try refine zaV ?_);apply zaX)|(apply zba;intro _));(solve|exact(hnm)|(refine CallOK.le (hnm) ?_;exact zM)|fail);try case hn=>rfl)|refine zbb ?_|refine zaa (fun hb=> ?_) (fun hb=> ?_)|(refine And.intro ?_ ?_;exact zI)|refine And.intro (fun hg=> ?_) (fun hg=> ?_)|exact zC|fail)
structure Act where
 time:Int
 client:Int
 seq:Int
 kind:Int
 session:Int
 name:Int
abbrev Act.enc (a:Act):List D:=[uD a.time,uD a.client,uD a.seq,uD a.kind,uD a.session,uD a.name]
abbrev zkh (l:List Act):List D:=l.flatMap Act.enc
def zpF (a:Act):Prop:=zav a.time∧zav a.client∧zav a.seq∧zav a.kind∧zav a.session∧zav a.name
theorem zzW {l:List Act} {i:Nat} (hi:i<l.length):(zkh l).drop (i*6)=l[i].enc++(zkh (l.drop (i+1))):=zdj _ 6 l i hi fun _=>rfl
theorem zxf {l:List Act}:(zkh l).length=l.length*6:=zcT _ 6 (fun _=>rfl) l
def zBP (c q k s n:Int):Req:=⟨c % 8,1+q,zk0 k,zr7 k s,zuv k n⟩
theorem zzX (c q k s n:Int) (h1:zav c) (h2:zav q) (h3:zav k) (h4:zav s) (h5:zav n):CallOK prog 58 [.f (au c), .f (au q), .f (au k), .f (au s), .f (au n)] (fun r o=>r=[.agg ((zBP c q k s n).enc.map RO.d)]∧o=[]):=by
 refine zh func58 results58 ntmps58 call58 ?_
 simp only[f58,Option.getD]
 have hcm:=zzV k s n h3 h4 h5
 have hwc:=zdq h1
 have hwq:=zdq h2
 have htc:=zd9 h1.1 8
 have hq1:IntKind.i64.wrap (1+q)=1+q:=by unfold zav at h2;exact wrap64 (by omega) (by omega)
 refine zL (I hwc (I hwq (I htc hq1))) (hcm) ?_
 rfl
theorem zmI (l:List Memo) (hl:l.length<2^62) (c:Int):CallOK prog 189 [.f (al l.length (zaM l)), .f (ai c)]
  (fun r o=>r=[.agg (((zct l c).getD zgY).enc.map RO.d),rb (zct l c).isSome]∧o=[]):=by
 refine CallOK.nil ?_
 refine zh func189 results189 ntmps189 call189 ?_
 simp only[f189,Option.getD]
 refine zL0 trivial ?_
 refine zaf (τ:=Nat) (fun i=>⟨(al l.length (zaM l)::ai c::dq2 (ptq 4::dd::ai i::zvT [])),[(4,⟨2,[obq 1 [di 0,di 0,di 0,di 0,di 0, .d (.v (.slice none 0 0))],none,none,none,none,none,none]⟩)]⟩)
  (fun i=>i≤l.length) (fun i=>zct (l.drop i) c) (fun i=>l.length - i) 0
  (Gh.canon [4] [] [] zK rfl rfl) (Nat.zero_le _) ?_
 intro i hi0 hF K hK
 rw[List.drop_zero]at hF
 refine zw ?_
 refine zaa (fun hlt=> ?_) (fun hge=> ?_)
 ·have hi:i<l.length:=by simpa using hlt
  have hat:=zdI hi
  have hw:=zai hi hl
  have hq:zct (l.drop i) c=if(l[i].client==c)=true then some l[i]else zct (l.drop (i+1)) c:=by
   unfold zct
   rw[List.drop_eq_getElem_cons hi,List.find?_cons]
   cases l[i].client==c<;>rfl
  rw[hq]at hF
  repeat'(first|exact zC|refine zq (I hat (I @zaC zca)) ?_|(apply zaa<;>intro hb)|(apply I;exact zI)|(apply I<;>intro hg))
  ·rw[if_pos hb]at hF
   rw[←hF]
   simp[zaN,zcC,zaQ,zaA]
  ·rw[if_neg (by rw[hb];simp)]at hq
   exact hK _ (i+1) (Gh.canon [4] [] [] (zk hw) rfl rfl) hi hq.symm (by omega)
 ·have hi:i=l.length:=by
   have:¬(i:Int)<l.length:=by simpa using hge
   omega
  rw[hi,List.drop_length]at hF
  have hF:none=zct l c:=hF
  rw[←hF]
  repeat'(first|exact zC|refine zq0 ?_|(apply zaa<;>intro hb)|(apply I;exact zI)|(apply I<;>intro hg))
  simp[zaN,zcC,zaQ,zaA,zgY]
def zvW (s:St) (a:Act):Req:=
 let r:=zBP a.client (a.seq % 6) a.kind a.session a.name
 let b1:=(zaH s.sess r.client).isSome&&decide (a.session % 8>0)&&(r.kind !=1)
 let b2:= !(zaH s.sess r.client).isSome&&decide (a.session % 4>0)
 ⟨r.client,if decide (a.seq % 5>0)=true then(if(zct s.memos r.client).isSome=true then((zct s.memos r.client).getD zgY).seq+1 else 1)else r.seq,
  if b2=true then 1 else r.kind,if b2=true then 0 else if b1=true then((zaH s.sess r.client).getD zfF).num else r.session,if b2=true then .empty else r.name⟩
set_option maxHeartbeats 4000000 in
theorem zr8 (s:St) (h:Small s) (hr:RightS s) (a:Act) (ha:zpF a):CallOK prog 160 [.f (.agg s.lent), .f (.agg (a.enc.map C.d))] (fun r o=>r=[.agg ((zvW s a).enc.map RO.d)]∧o=[]):=by
 refine zh func160 results160 ntmps160 call160 ?_
 simp only[f160,Option.getD]
 obtain⟨_,h1,h2,h3,h4,h5⟩:=ha
 have hrq:=zzX a.client (a.seq % 6) a.kind a.session a.name h1 (by unfold zav;omega) h3 h4 h5
 generalize hN:zBP a.client (a.seq % 6) a.kind a.session a.name=r at*
 have hla:=zmI s.memos (by have:=h.memos;omega) r.client
 have hfi:=zfu s.sess (by have:=h.sess;omega) r.client
 have ht6:=zd9 h2.1 6
 have ht5:=zd9 h2.1 5
 have ht8:=zd9 h4.1 8
 have ht4:=zd9 h4.1 4
 have hwm:IntKind.i64.wrap (((zct s.memos r.client).getD zgY).seq+1)=((zct s.memos r.client).getD zgY).seq+1:=by
  have hb:0≤((zct s.memos r.client).getD zgY).seq∧((zct s.memos r.client).getD zgY).seq≤zbE:=by
   cases hf:zct s.memos r.client with
   |none=>decide
   |some m=>
    have:=(zdr (hr.mok m (List.mem_of_find?_eq_some hf))).2.1
    simp only[Option.getD_some];omega
  have hH:zbE=2305843009213693952:=rfl
  exact wrap64 (by omega) (by omega)
 have hR:zvW s a=⟨r.client,if decide (a.seq % 5>0)=true then(if(zct s.memos r.client).isSome=true then((zct s.memos r.client).getD zgY).seq+1 else 1)else r.seq,
  if(!(zaH s.sess r.client).isSome&&decide (a.session % 4>0))=true then 1 else r.kind,if(!(zaH s.sess r.client).isSome&&decide (a.session % 4>0))=true then 0 else if((zaH s.sess r.client).isSome&&decide (a.session % 8>0)&&(r.kind !=1))=true then((zaH s.sess r.client).getD zfF).num else r.session,
  if(!(zaH s.sess r.client).isSome&&decide (a.session % 4>0))=true then .empty else r.name⟩:=by unfold zvW;rw[hN]
 generalize zvW s a=R at hR⊢
 repeat'(first|exact zC|refine zq (I ht6 (I ht5 (I ht8 (I ht4 hwm)))) ?_|refine zx (hrq) ?_|refine zx (hla) ?_|refine zx (hfi) ?_|(apply zaa<;>intro hb)|(apply I;exact zI)|(apply I<;>intro hg))
 all_goals clear hrq hla hfi ht6 ht5 ht8 ht4 hwm hN h hr h1 h2 h3 h4 h5
 all_goals subst hR
 all_goals simp only[*,if_true,Bool.false_eq_true,if_false]
end Go.Proofs.YtliimajkpggbhaaGreat
