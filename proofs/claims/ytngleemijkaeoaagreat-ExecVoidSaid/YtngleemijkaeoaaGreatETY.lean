import Derived.Test.YtngleemijkaeoaaGreatK9
import Derived.JoinedOf
import Derived.Handed
import Derived.ProofKit
import Derived.Test.YtngleemijkaeoaaGreatEH
namespace Go.Proofs.YtngleemijkaeoaaGreat
open Go.Pk
set_option maxRecDepth 100000
set_option linter.unusedSimpArgs false
set_option linter.unusedVariables false
theorem zkc {s:St} {l:List Memo} {rs:List Req} {i:Nat} (hi:i<rs.length):zfF s (rs.drop i) l=zfF (zba s rs[i]).1 (rs.drop (i+1)) (if za8 s.memos rs[i].client rs[i].seq= -1 then l else l++[⟨rs[i].client,rs[i].seq,(zba s rs[i]).2.1⟩]):=by
 rw[List.drop_eq_getElem_cons hi,zfF]
abbrev xsR (nx:Nat) (l d v s:Int) (st:St):Nat×RS:=(0,{next:=nx,l:=[some {e:=0,var:=true,fz:=false,bor:=true,sz:=0,cells:=[di l,di d,di v,di s,di st.time,di st.num,di st.token, .d (.sl st.sess.length (zaI st.sess)), .d (.sl st.locks.length (zaf st.locks)), .d (.sl st.memos.length (zaw st.memos))]},none,none,none,none,none,none,none,none,none,none]})
theorem memosE_snoc {l:List Memo} {m:Memo}:zaw (l++[m])=zaw l++m.enc:=by simp[zaw]
set_option maxHeartbeats 4000000 in
theorem zkd (x:XS) (b:Batch) (hb:b.ok) (hr:RightS x.st) (hN:x.st.num+3≤zaS) (hT:x.st.token+16≤zaS) (hd:0≤x.done∧x.done<2^60):
  CallOK Tryz.prog 12 [.obj x.ro, .f (.agg b.lent)] (fun r o=>r=[.one (.own 6 (doP x b).2.1.length (zaw (doP x b).2.1) false),rb (doP x b).2.2]∧o=[(doP x b).1.ro]):=by
 refine CallOK.nil ?_
 refine zac zaq mixed (T:=Ty) (n:=102) Tryz.func12 (c:=Tryz.f12.body.getD .skip) rfl Tryz.results12 Tryz.ntmps12 Tryz.call12 ?_
 simp only[Tryz.f12,Option.getD]
 have hmay:=zkU b hb
 have hval:=zp6 ⟨x.view,x.slot⟩ b
 have hw1:IntKind.i64.wrap (x.done+1)=x.done+1:=wrap64 (by omega) (by omega)
 have hv':zde x b=(!b.fill&&(b.tip.view==x.view&&b.tip.slot==x.slot)):=rfl
 cases hm:Batch.may b
 ·rw[hm]at hmay
  have hP:doP x b=(x,[],false):=by unfold doP;rw[if_pos hm]
  rw[hP]
  repeat'(first|refine zq0 ?_|exact zd0|refine zc (hmay) ?_|refine zg (hmay) ?_|(refine zaa ?_ ?_<;>intro hb)|(refine And.intro ?_ ?_;exact zI)|(refine And.intro ?_ ?_<;>intro hg)|exact zC|fail)
  simp[zbe,zdd,zaV]
 rw[hm]at hmay
 cases hv:zde x b
 ·rw[←hv',hv]at hval
  have hP:doP x b=({x with done:=x.done+1},[],false):=by unfold doP;rw[if_neg (by rw[hm];simp),if_pos hv]
  rw[hP]
  repeat'(first|refine zq hw1 ?_|exact zd hw1|refine zc (hmay) ?_|refine zg (hmay) ?_|refine zc (hval) ?_|refine zg (hval) ?_|(refine zaa ?_ ?_<;>intro hb)|(refine And.intro ?_ ?_;exact zI)|(refine And.intro ?_ ?_<;>intro hg)|exact zC|fail)
  simp[zbe,zdd,zaV]
 rw[←hv',hv]at hval
 have hP:doP x b=(⟨x.lease,x.done+1,b.view,x.done+1,(zgb x b).1⟩,(zgb x b).2,true):=by unfold doP;rw[if_neg (by rw[hm];simp),if_neg (by rw[hv];simp)]
 rw[hP]
 obtain⟨_,_,_,_,hl3,_,_⟩:=zex hm (zdt hv).1
 have hadv:=zlZ x.st (zbG hr) hr b.time x.lease
 obtain⟨r1,r2,r3,r4,r5⟩:=zcK hr b.time x.lease (by omega)
 have hran:zgb x b=zfF (zbi x.st b.time x.lease) b.reqs []:=rfl
 rw[hran]
 generalize zbi x.st b.time x.lease=s0 at*
 repeat'(first|refine zq hw1 ?_|exact zd hw1|refine zc (hmay) ?_|refine zg (hmay) ?_|refine zc (hval) ?_|refine zg (hval) ?_|refine zc (hadv) ?_|refine zg (hadv) ?_|(refine zaa ?_ ?_<;>intro hb)|(refine And.intro ?_ ?_;exact zI)|(refine And.intro ?_ ?_<;>intro hg)|exact zC|fail)
 refine zas (τ:=Nat×St×List Memo) (fun t=>⟨[.one (.ptr ⟨0,0,0⟩ 0),dd,dd,dd,dd,dd, .one (.ptr ⟨6,0,1⟩ 0), .one (.own ⟨7,1,1⟩ 0 t.2.2.length),dd,dd,dd,dd,dd,dd,dd,dd,dd,dd,dd,dd,dd,dd,dd,dd,dd,dd,dd,dd,dd,dd,dd,dd,dd,dd,dd,dd,dd,dd,dd,dd,dd,dd,dd,dd,dd,dd,dd,dd,dd,dd,dd,dd,dd,dd,dd,dd,dd,dd,dd,dd,dd,dd,dd,al b.reqs.length (zbM b.reqs),ai b.reqs.length,ai t.1,dd,dd,dd,dd,dd,dd,dd,dd,dd,dd,dd,dd,dd,dd,dd,dd,dd,dd,dd,dd,dd,dd,dd,dd,dd,dd,dd,dd,dd,dd,dd,dd,dd,dd,dd,dd],[xsR 4 x.lease (x.done+1) b.view (x.done+1) x.st,(3,⟨2,[]⟩),(6,{next:=2,l:=[some {e:=1,var:=true,fz:=false,sz:=0,cells:=[di t.2.1.time,di t.2.1.num,di t.2.1.token, .d (.sl t.2.1.sess.length (zaI t.2.1.sess)), .d (.sl t.2.1.locks.length (zaf t.2.1.locks)), .d (.sl t.2.1.memos.length (zaw t.2.1.memos))]},none,none,none,none,none,none]}),(7,{next:=2,l:=[none,some {e:=1,var:=false,fz:=false,sz:=6,cells:=(zaw t.2.2).map C.d}]}),(9,⟨2,[]⟩),(11,⟨2,[]⟩),(12,⟨2,[]⟩),(79,⟨2,[]⟩),(93,⟨2,[]⟩),(94,⟨2,[]⟩)]⟩)
  (fun t=>t.1≤b.reqs.length∧RightS t.2.1∧t.2.1.num≤x.st.num+t.1∧t.2.1.token≤x.st.token+4+4*t.1∧t.2.2.length≤t.1) (fun t=>zfF t.2.1 (b.reqs.drop t.1) t.2.2) (fun t=>b.reqs.length - t.1) (0,s0,[])
  ((Gh.nil (i:=7) (s:=7) (sz:=6) rfl).trans (Gh.canon [0,6,7] [9,11,12,79,93,94] [0] zK rfl rfl)) ⟨Nat.zero_le _,r1,by simp only;omega,by simp only;omega,Nat.le_refl _⟩ ?_
 intro⟨i,s,l⟩ ⟨j1,j2,j3,j4,j5⟩ hF K hK
 simp only[List.drop_zero]at j1 j2 j3 j4 j5 hF hK⊢
 refine zw ?_
 refine zaa (fun hlt=> ?_) (fun hge=> ?_)
 ·have hi:i<b.reqs.length:=by simpa using hlt
  have hF0:=hF
  rw[zkc hi]at hF
  have hat:=zeF hi
  have hw:=zar hi (by omega)
  have hro:=hb.2.2.2.2.2 _ (List.getElem_mem hi)
  have hstep:∀s' l',zfF s' (b.reqs.drop (i+1)) l'=zfF s' (b.reqs.drop (i+1)) l':=fun _ _=>rfl
  generalize b.reqs[i]=q at*
  have hsm:=zbG j2
  have hfr:=ziv s.memos j2.ms hsm.memos q.client q.seq
  have hap:=zoU s hsm j2 q hro (fun hm=>zg8 j2 hm (by omega) (by omega))
  obtain⟨d1,d2,d3,d4,d5⟩:=zdu j2 q (by omega) (by omega)
  generalize (zba s q).1=s1 at*
  generalize (zba s q).2.1=rep at*
  generalize (zba s q).2.2=okb at*
  have hln:((zbM b.reqs).length=b.reqs.length*5)=True:=eq_true za0
  cases f:(za8 s.memos q.client q.seq != -1)
  ·have f':za8 s.memos q.client q.seq= -1:=by simpa using f
   rw[if_pos f']at hF
   repeat'(first|refine zq (I hat (I @za0 (I f zca))) ?_|exact zd (I hat (I @za0 (I f zca)))|refine zc (hfr) ?_|refine zg (hfr) ?_|refine zc (hap) ?_|refine zg (hap) ?_|(refine zaa ?_ ?_<;>intro hb)|(refine And.intro ?_ ?_;exact zI)|(refine And.intro ?_ ?_<;>intro hg)|exact zC|fail)
   refine hK _ (i+1,s1,l) (Gh.canon [0,6,7] [] [0] (zk hw) rfl rfl) ⟨hi,d1,by simp only;omega,by simp only;omega,by simp only;omega⟩ (hF.trans hF0.symm) (by simp only;omega)
  ·have f':¬za8 s.memos q.client q.seq= -1:=by simpa using f
   rw[if_neg f']at hF
   have hle:((l.length+1)*64≤2^47)=True:=eq_true (by omega)
   repeat'(first|refine zq (I hat (I @za0 (I f (I hle (I @zcs (I @zby zca)))))) ?_|exact zd (I hat (I @za0 (I f (I hle (I @zcs (I @zby zca))))))|refine zc (hfr) ?_|refine zg (hfr) ?_|refine zc (hap) ?_|refine zg (hap) ?_|(refine zaa ?_ ?_<;>intro hb)|(refine And.intro ?_ ?_;exact zI)|(refine And.intro ?_ ?_<;>intro hg)|exact zC|fail)
   refine hK _ (i+1,s1,l++[⟨q.client,q.seq,rep⟩]) (Gh.canon [0,6,7] [] [0] (zk (I hw (I @List.length_append.{0} @List.length_singleton.{0}))) rfl (by simp only[List.length_append,List.length_singleton];rw[memosE_snoc];rfl)) ⟨hi,d1,by simp only;omega,by simp only;omega,by simp only[List.length_append,List.length_singleton];omega⟩ (hF.trans hF0.symm) (by simp only;omega)
 ·have hi:i=b.reqs.length:=by
   have:¬(i:Int)<b.reqs.length:=by simpa using hge
   omega
  rw[hi,List.drop_length,zfF]at hF
  rw[←hF]
  repeat'(first|refine zq @zby ?_|exact zd @zby|(refine zaa ?_ ?_<;>intro hb)|(refine And.intro ?_ ?_;exact zI)|(refine And.intro ?_ ?_<;>intro hg)|exact zC|fail)
  simp[zbe,zdd,zaV]
set_option maxHeartbeats 4000000 in
theorem ztb (x:XS) (b:Batch) (hb:b.ok) (hr:RightS x.st) (hN:x.st.num+3≤zaS) (hT:x.st.token+16≤zaS) (hd:0≤x.done∧x.done<2^60):
  CallOK Tryz.prog 11 [.obj x.ro, .f (.agg b.lent)] (fun r o=>r=[.one (.own 6 (doP x b).2.1.length (zaw (doP x b).2.1) false),rb (doP x b).2.2]∧o=[(doP x b).1.ro]):=by
 refine CallOK.nil ?_
 refine zac zaq mixed (T:=Ty) (n:=102) Tryz.func11 (c:=Tryz.f11.body.getD .skip) rfl Tryz.results11 Tryz.ntmps11 Tryz.call11 ?_
 simp only[Tryz.f11,Option.getD]
 have hmay:=zkb b hb
 have hval:=zoC ⟨x.view,x.slot⟩ b
 have hw1:IntKind.i64.wrap (x.done+1)=x.done+1:=wrap64 (by omega) (by omega)
 have hv':zde x b=(!b.fill&&(b.tip.view==x.view&&b.tip.slot==x.slot)):=rfl
 cases hm:Batch.may b
 ·rw[hm]at hmay
  have hP:doP x b=(x,[],false):=by unfold doP;rw[if_pos hm]
  rw[hP]
  repeat'(first|refine zq0 ?_|exact zd0|refine zc (hmay) ?_|refine zg (hmay) ?_|(refine zaa ?_ ?_<;>intro hb)|(refine And.intro ?_ ?_;exact zI)|(refine And.intro ?_ ?_<;>intro hg)|exact zC|fail)
  simp[zbe,zdd,zaV]
 rw[hm]at hmay
 cases hv:zde x b
 ·rw[←hv',hv]at hval
  have hP:doP x b=({x with done:=x.done+1},[],false):=by unfold doP;rw[if_neg (by rw[hm];simp),if_pos hv]
  rw[hP]
  repeat'(first|refine zq hw1 ?_|exact zd hw1|refine zc (hmay) ?_|refine zg (hmay) ?_|refine zc (hval) ?_|refine zg (hval) ?_|(refine zaa ?_ ?_<;>intro hb)|(refine And.intro ?_ ?_;exact zI)|(refine And.intro ?_ ?_<;>intro hg)|exact zC|fail)
  simp[zbe,zdd,zaV]
 rw[←hv',hv]at hval
 have hP:doP x b=(⟨x.lease,x.done+1,b.view,x.done+1,(zgb x b).1⟩,(zgb x b).2,true):=by unfold doP;rw[if_neg (by rw[hm];simp),if_neg (by rw[hv];simp)]
 rw[hP]
 obtain⟨_,_,_,_,hl3,_,_⟩:=zex hm (zdt hv).1
 have hadv:=zkS x.st (zbG hr) hr b.time x.lease
 obtain⟨r1,r2,r3,r4,r5⟩:=zcK hr b.time x.lease (by omega)
 have hran:zgb x b=zfF (zbi x.st b.time x.lease) b.reqs []:=rfl
 rw[hran]
 generalize zbi x.st b.time x.lease=s0 at*
 repeat'(first|refine zq hw1 ?_|exact zd hw1|refine zc (hmay) ?_|refine zg (hmay) ?_|refine zc (hval) ?_|refine zg (hval) ?_|refine zc (hadv) ?_|refine zg (hadv) ?_|(refine zaa ?_ ?_<;>intro hb)|(refine And.intro ?_ ?_;exact zI)|(refine And.intro ?_ ?_<;>intro hg)|exact zC|fail)
 refine zas (τ:=Nat×St×List Memo) (fun t=>⟨[.one (.ptr ⟨0,0,0⟩ 0),dd,dd, .one (.ptr ⟨3,0,1⟩ 0),dd,dd, .one (.own ⟨6,1,1⟩ 0 t.2.2.length),ai t.1,dd,dd,dd,dd,dd,dd,dd,dd,dd,dd,dd,dd,dd,dd,dd,dd,dd,dd,dd,dd,dd,dd,dd,dd,dd,dd,dd,dd,dd,dd,dd,dd,dd,dd,dd,dd,dd,dd,dd,dd,dd,dd,dd,dd,dd,dd,dd,dd,dd,dd,dd,dd,dd,dd,dd,dd,dd,dd,dd,dd,dd,dd,dd,dd,dd,dd,dd,dd,dd,dd,dd,dd,dd,dd,dd,dd,dd,dd,dd,dd,dd,dd,dd,dd,dd,dd,dd,dd,dd,dd,dd,dd,dd,dd],[xsR (10+6*t.1) x.lease (x.done+1) b.view (x.done+1) t.2.1,(3,{next:=2,l:=[some {e:=1,var:=true,fz:=false,sz:=0,cells:=[db b.fill,di b.view,di b.tip.view,di b.tip.slot,di b.time, .lent b.reqs.length (zbM b.reqs)]},none,none,none,none,none,none]}),(6,{next:=2,l:=[none,some {e:=1,var:=false,fz:=false,sz:=6,cells:=(zaw t.2.2).map C.d}]}),(8,⟨2,[]⟩),(10,⟨2,[]⟩),(11,⟨2,[]⟩),(82,⟨2,[]⟩),(99,⟨2,[]⟩),(100,⟨2,[]⟩)]⟩)
  (fun t=>t.1≤b.reqs.length∧RightS t.2.1∧t.2.1.num≤x.st.num+t.1∧t.2.1.token≤x.st.token+4+4*t.1∧t.2.2.length≤t.1) (fun t=>zfF t.2.1 (b.reqs.drop t.1) t.2.2) (fun t=>b.reqs.length - t.1) (0,s0,[])
  ((Gh.nil (i:=6) (s:=6) (sz:=6) rfl).trans (Gh.canon [0,3,6] [8,10,11,82,99,100] [0] zK rfl rfl)) ⟨Nat.zero_le _,r1,by simp only;omega,by simp only;omega,Nat.le_refl _⟩ ?_
 intro⟨i,s,l⟩ ⟨j1,j2,j3,j4,j5⟩ hF K hK
 simp only[List.drop_zero]at j1 j2 j3 j4 j5 hF hK⊢
 refine zw ?_
 refine zaa (fun hlt=> ?_) (fun hge=> ?_)
 ·have hi:i<b.reqs.length:=by simpa using hlt
  have hF0:=hF
  rw[zkc hi]at hF
  have hat:=zeF hi
  have hw:=zar hi (by omega)
  have hro:=hb.2.2.2.2.2 _ (List.getElem_mem hi)
  have hstep:∀s' l',zfF s' (b.reqs.drop (i+1)) l'=zfF s' (b.reqs.drop (i+1)) l':=fun _ _=>rfl
  generalize b.reqs[i]=q at*
  have hsm:=zbG j2
  have hfr:=zgR s.memos (by have:=hsm.memos;omega) q.client q.seq
  have hap:=zom s hsm j2 q hro (fun hm=>zko j2 hm (by omega) (by omega)) (fun hm=>zg8 j2 hm (by omega) (by omega))
  have hnx:10+6*i+6=10+6*(i+1):=by omega
  obtain⟨d1,d2,d3,d4,d5⟩:=zdu j2 q (by omega) (by omega)
  generalize (zba s q).1=s1 at*
  generalize (zba s q).2.1=rep at*
  generalize (zba s q).2.2=okb at*
  have hln:((zbM b.reqs).length=b.reqs.length*5)=True:=eq_true za0
  cases f:decide (za8 s.memos q.client q.seq≥0)
  ·have f':za8 s.memos q.client q.seq= -1:=by rcases zgS s.memos q.client q.seq with e|e|e<;>simp[e]at f⊢
   rw[if_pos f']at hF
   repeat'(first|refine zq (I hat (I @za0 (I f zca))) ?_|exact zd (I hat (I @za0 (I f zca)))|refine zc (hfr) ?_|refine zg (hfr) ?_|refine zc (hap) ?_|refine zg (hap) ?_|(refine zaa ?_ ?_<;>intro hb)|(refine And.intro ?_ ?_;exact zI)|(refine And.intro ?_ ?_<;>intro hg)|exact zC|fail)
   refine hK _ (i+1,s1,l) (Gh.canon [0,3,6] [] [0] (zk hw) rfl rfl) ⟨hi,d1,by simp only;omega,by simp only;omega,by simp only;omega⟩ (hF.trans hF0.symm) (by simp only;omega)
  ·have f':¬za8 s.memos q.client q.seq= -1:=by simp at f;omega
   rw[if_neg f']at hF
   have hle:((l.length+1)*64≤2^47)=True:=eq_true (by omega)
   repeat'(first|refine zq (I hat (I @za0 (I f (I hle (I @zcs (I @zby zca)))))) ?_|exact zd (I hat (I @za0 (I f (I hle (I @zcs (I @zby zca))))))|refine zc (hfr) ?_|refine zg (hfr) ?_|refine zc (hap) ?_|refine zg (hap) ?_|(refine zaa ?_ ?_<;>intro hb)|(refine And.intro ?_ ?_;exact zI)|(refine And.intro ?_ ?_<;>intro hg)|exact zC|fail)
   refine hK _ (i+1,s1,l++[⟨q.client,q.seq,rep⟩]) (Gh.canon [0,3,6] [] [0] (zk (I hw (I @List.length_append.{0} @List.length_singleton.{0}))) rfl (by simp only[List.length_append,List.length_singleton];rw[memosE_snoc];rfl)) ⟨hi,d1,by simp only;omega,by simp only;omega,by simp only[List.length_append,List.length_singleton];omega⟩ (hF.trans hF0.symm) (by simp only;omega)
 ·have hi:i=b.reqs.length:=by
   have:¬(i:Int)<b.reqs.length:=by simpa using hge
   omega
  rw[hi,List.drop_length,zfF]at hF
  rw[←hF]
  repeat'(first|refine zq @zby ?_|exact zd @zby|(refine zaa ?_ ?_<;>intro hb)|(refine And.intro ?_ ?_;exact zI)|(refine And.intro ?_ ?_<;>intro hg)|exact zC|fail)
  simp[zbe,zdd,zaV]
def zs8:Batch:=⟨true,0,⟨0,0⟩,0,[]⟩
def zs9:Batch:=⟨false,3,⟨0,0⟩,7,[⟨2,1,1,0, .empty⟩]⟩
def sOne:St:=⟨7,1,0,[⟨2,1,7⟩],[],[⟨2,1,⟨0,1,0,[]⟩⟩]⟩
theorem zsh:doP (zqX 10) zs8=(⟨10,1,0,0,st0⟩,[],false):=by kernel_rfl
theorem zta:doP ⟨10,1,0,0,st0⟩ zs9=(⟨10,2,3,2,sOne⟩,[⟨2,1,⟨0,1,0,[]⟩⟩],true):=by kernel_rfl
set_option maxHeartbeats 2000000 in
theorem zmL:CallOK Tryz.prog 20 [] (fun r o=>r=[rb true]∧o=[]):=by
 refine zac zaq mixed (T:=Ty) (n:=68) Tryz.func20 (c:=Tryz.f20.body.getD .skip) rfl Tryz.results20 Tryz.ntmps20 Tryz.call20 ?_
 simp only[Tryz.f20,Option.getD]
 have n1:=zoK 10 rfl
 have n0:=zqc 0 rfl
 have d1:=zkd (zqX 10) zs8 ⟨by unfold i64;decide,by unfold i64;decide,by unfold i64;decide,by unfold i64;decide,by decide,fun r hr=>by cases hr⟩ zeR (by decide) (by decide) (by decide)
 rw[zsh]at d1
 have d1:CallOK Tryz.prog 12 [.obj (zqX 10).ro, .f (.agg [db true,di 0,di 0,di 0,di 0, .lent 0 []])] (fun r o=>r=[.one (.own 6 0 [] false),rb false]∧o=[XS.ro ⟨10,1,0,0,st0⟩]):=d1
 have d2:=zkd ⟨10,1,0,0,st0⟩ zs9 ⟨by unfold i64;decide,by unfold i64;decide,by unfold i64;decide,by unfold i64;decide,by decide,fun r hr=>by
  simp only[zs9,List.mem_singleton]at hr
  subst hr
  exact⟨by unfold i64;decide,by unfold i64;decide,by unfold i64;decide,by unfold i64;decide,by decide⟩⟩ zeR (by decide) (by decide) (by decide)
 rw[zta]at d2
 have d2:CallOK Tryz.prog 12 [.obj (XS.ro ⟨10,1,0,0,st0⟩), .f (.agg [db false,di 3,di 0,di 0,di 7, .lent 1 [iD 2,iD 1,iD 1,iD 0,sD .empty]])] (fun r o=>r=[.one (.own 6 1 [iD 2,iD 1,iD 0,iD 1,iD 0, .sl 0 []] false),rb true]∧o=[XS.ro ⟨10,2,3,2,sOne⟩]):=d2
 have hr2:RightS sOne:=by
  have h:=(zgd (x:=⟨10,1,0,0,st0⟩) (b:=zs9) zeR (by decide) (by decide) (by decide)).1
  have e:(zgb ⟨10,1,0,0,st0⟩ zs9).1=sOne:=by kernel_rfl
  rwa[e]at h
 have c1:=zqd ⟨10,2,3,2,sOne⟩
 have c2:=zsg ⟨10,2,3,2,sOne⟩
 have c3:=zoL ⟨10,2,3,2,sOne⟩ (zbG hr2)
 repeat'(first|(with_reducible first|refine zab _ _ ?_|refine zaM ?_|refine zaN ?_)|rw[zak]|simp only[zY,Int.reduceEq,Int.reduceBEq,Int.reduceBNe,Nat.reduceSub,Nat.reduceEqDiff,Nat.reduceAdd,Nat.reduceMul,Nat.reduceLeDiff,Nat.reduceLT,Nat.reduceBEq,reduceCtorEq]|((first|((try refine zaz ?_);apply zaC)|(apply zaB;intro _));(solve|exact(n0)|(refine CallOK.le (n0) ?_;exact zM)|fail);try case hn=>rfl)|refine zc9 (n1) ?_|(refine zc9 (CallP.le (n1) ?_) ?_;focus(simp[zcf,aLe,zlk,cLe]<;>fail))|refine zal ?_|refine zaa (fun hb=> ?_) (fun hb=> ?_)|(refine And.intro ?_ ?_;exact zI)|refine And.intro (fun hg=> ?_) (fun hg=> ?_)|exact zC|fail)
 refine zj (d1) ?_
 repeat'(first|(with_reducible first|refine zab _ _ ?_|refine zaM ?_|refine zaN ?_)|rw[zak]|simp only[zY,Int.reduceEq,Int.reduceBEq,Int.reduceBNe,Nat.reduceSub,Nat.reduceEqDiff,Nat.reduceAdd,Nat.reduceMul,Nat.reduceLeDiff,Nat.reduceLT,Nat.reduceBEq,reduceCtorEq]|((first|((try refine zaz ?_);apply zaC)|(apply zaB;intro _));(solve|exact(n0)|(refine CallOK.le (n0) ?_;exact zM)|fail);try case hn=>rfl)|refine zc9 (n1) ?_|(refine zc9 (CallP.le (n1) ?_) ?_;focus(simp[zcf,aLe,zlk,cLe]<;>fail))|refine zal ?_|refine zaa (fun hb=> ?_) (fun hb=> ?_)|(refine And.intro ?_ ?_;exact zI)|refine And.intro (fun hg=> ?_) (fun hg=> ?_)|exact zC|fail)
 refine zj (d2) ?_
 have hs7:(sOne.time==(7:Int))=true:=rfl
 have z1:((2:Int)==2)=true:=rfl
 have z2:((1:Int)==1)=true:=rfl
 have z3:((0:Int)==0)=true:=rfl
 repeat'(first|refine zq (I hs7 (I z1 (I z2 z3))) ?_|exact zd (I hs7 (I z1 (I z2 z3)))|refine zc (n0) ?_|refine zg (n0) ?_|refine zc (c1) ?_|refine zg (c1) ?_|refine zc (c2) ?_|refine zg (c2) ?_|refine zc (c3) ?_|refine zg (c3) ?_|(refine zaa ?_ ?_<;>intro hb)|(refine And.intro ?_ ?_;exact zI)|(refine And.intro ?_ ?_<;>intro hg)|exact zC|fail)
 rfl
def zwb (a b:Sn):Bool:=(a.done==b.done)&&((a.view==b.view)&&(a.slot==b.slot))&&zte a.st b.st
theorem zd7 {α:Type} {eq:α→α→Bool} (h:∀a,eq a a=true) (l:List α):zdb eq l l=true:=by
 unfold zdb
 simp only[beq_self_eq_true,Bool.true_and,List.all_eq_true]
 intro p hp
 obtain⟨j,h1,h2⟩:=List.getElem_of_mem hp
 rw[←h2,List.getElem_zip]
 exact h _
theorem zmG (l:List Int):zdb zmH l l=true:=zd7 (fun x=>by simp[zmH]) l
theorem zoG (l:List Grant):zdb zp8 l l=true:=zd7 (fun x=>by simp[zp8]) l
theorem zp7 (s:St):zte s s=true:=by
 unfold zte
 rw[zd7 (fun a=>by simp[zse]),zd7 (fun a=>by simp[zp9,zmG]),zd7 (fun a=>by simp[zqa,zoG])]
 simp
def zwa (s:St) (q:Req):List Memo:=if za8 s.memos q.client q.seq= -1 then []else [⟨q.client,q.seq,(zba s q).2.1⟩]
def Live (s:St) (L:Int):Prop:=∀x∈s.sess,s.time - x.renewed<L
abbrev xO (s:Nat) (x:XS):Nat×RS:=(s,{next:=2,l:=[some {e:=1,var:=true,fz:=false,sz:=0,cells:=[di x.lease,di x.done,di x.view,di x.slot,di x.st.time,di x.st.num,di x.st.token, .d (.sl x.st.sess.length (zaI x.st.sess)), .d (.sl x.st.locks.length (zaf x.st.locks)), .d (.sl x.st.memos.length (zaw x.st.memos))]},none,none,none,none,none,none,none,none,none,none]})
theorem zty:zcn 0:=⟨by decide,by decide⟩
structure XCan (x:XS):Prop where
 rt:RightS x.st
 sm:Small x.st
 nm:x.st.num+3≤zaS
 tk:x.st.token+16≤zaS
 dn:0≤x.done∧x.done<2^60
 vw:0≤x.view∧x.view≤zaS
 sl:0≤x.slot∧x.slot<2^60
theorem zsd {x:XS} {i:Nat} (h:XMk x i) (hi:i≤100):XCan x:=by
 have hH:zaS=2305843009213693952:=rfl
 obtain⟨m1,m2,m3,m4,m5,m6,m7,m8,m9⟩:=h
 exact⟨m1,zbG m1,by omega,by omega,by omega,by omega,by omega⟩
set_option maxHeartbeats 8000000 in
theorem zkW (rows:List Row) (hl:rows.length<2^60) (hrw:∀r∈rows,rowOk r) (r:Row) (hr:rowOk r) (by':Int) (hby:zcn by'):
  CallOK Tryz.prog 5 [.f (al rows.length (zlU rows)), .f (.agg (r.enc.map C.d)), .f (au by')] (fun r o=>r=[rb true]∧o=[]):=by
 refine zac zaq mixed (T:=Ty) (n:=149) Tryz.func5 (c:=Tryz.f5.body.getD .skip) rfl Tryz.results5 Tryz.ntmps5 Tryz.call5 ?_
 simp only[Tryz.f5,Option.getD]
 have haw:=zmL
 have n1:=zoK 60 rfl
 have n2:=zsf 60 rfl
 repeat'(first|(with_reducible first|refine zab _ _ ?_|refine zaM ?_|refine zaN ?_)|rw[zak]|simp only[zY,Int.reduceEq,Int.reduceBEq,Int.reduceBNe,Nat.reduceSub,Nat.reduceEqDiff,Nat.reduceAdd,Nat.reduceMul,Nat.reduceLeDiff,Nat.reduceLT,Nat.reduceBEq,reduceCtorEq]|((first|((try refine zaz ?_);apply zaC)|(apply zaB;intro _));(solve|exact(haw)|(refine CallOK.le (haw) ?_;exact zM)|fail);try case hn=>rfl)|refine zc9 (n1) ?_|(refine zc9 (CallP.le (n1) ?_) ?_;focus(simp[zcf,aLe,zlk,cLe]<;>fail))|refine zc9 (n2) ?_|(refine zc9 (CallP.le (n2) ?_) ?_;focus(simp[zcf,aLe,zlk,cLe]<;>fail))|refine zal ?_|refine zaa (fun hb=> ?_) (fun hb=> ?_)|(refine And.intro ?_ ?_;exact zI)|refine And.intro (fun hg=> ?_) (fun hg=> ?_)|exact zC|fail)
 refine zas (τ:=Nat×XS) (fun t=>⟨[al rows.length (zlU rows),dd,au by',dd, .one (.ptr ⟨4,0,1⟩ 0),dd,dd, .one (.ptr ⟨20,0,1⟩ 0), .one (.ptr ⟨21,0,1⟩ 0),ai t.1,dd,dd,dd,dd,dd,dd,dd,dd,dd,dd,dd,dd,dd,dd,dd,dd,dd,dd,dd,dd,dd,dd,dd,dd,dd,dd,dd,dd,dd,dd,dd,dd,dd,dd,dd,dd,dd,dd,dd,dd,dd,dd,dd,dd,dd,dd,dd,dd,dd,dd,dd,dd,dd,dd,dd,dd,dd,dd,dd,dd,dd,dd,dd,dd,dd,dd,dd,dd,dd,dd,dd,dd,dd,dd,dd,dd,dd,dd,dd,dd,dd,dd,dd,dd,dd,dd,dd,dd,dd,dd,dd,dd,dd,dd,dd,dd,dd,dd,dd,dd,dd,dd,dd,dd,dd,dd,dd,dd,dd,dd,dd,dd,dd,dd,dd,dd,dd,dd,dd,dd,dd,dd,dd,dd,dd,dd,dd,dd,dd,dd,dd,dd,dd,dd,dd,dd,dd,dd,dd],[(4,{next:=2,l:=[some {e:=1,var:=true,fz:=false,sz:=0,cells:=[.d (uD r.time), .d (uD r.view), .d (uD r.kind), .d (.sl r.acts.length (ziL r.acts))]},none,none,none,none]}),xO 20 t.2,xO 21 t.2,(10,⟨2,[]⟩),(39,⟨2,[]⟩),(42,⟨2,[]⟩),(45,⟨2,[]⟩)]⟩)
  (fun t=>t.1≤rows.length∧t.1≤20∧XMk t.2 t.1) (fun _=>()) (fun t=>rows.length - t.1) (0,zqX 60)
  (Gh.canon [4,20,21] [10,39,42,45] [] zK rfl rfl) ⟨Nat.zero_le _,by simp,zti⟩ ?_
 intro⟨i,x⟩ ⟨j1,j2,j3⟩ _ K hK
 simp only at j1 j2 j3 hK⊢
 have hc:=zsd j3 (by omega)
 by_cases hlt:i<rows.length∧i<20
 ·obtain⟨hi,h20⟩:=hlt
  have hb1:decide ((i:Int)<rows.length)=true:=by simp;omega
  have hb2:decide ((i:Int)<20)=true:=by simp;omega
  have hat:=zqZ hi
  have hw:=zar hi (by omega)
  have hro:=hrw _ (List.getElem_mem hi)
  have hmk:=zth j3 (by omega) hro
  obtain⟨f1,f2,f3,f4⟩:=zdK j3 (by omega) hro
  have hbl:=zke x hc.sm hc.rt hc.vw hc.sl rows[i] hro
  generalize rows[i]=q at*
  generalize zbw x q=b at*
  have d1:=zkd x b f2 hc.rt hc.nm hc.tk hc.dn
  have d2:=ztb x b f2 hc.rt hc.nm hc.tk hc.dn
  generalize doP x b=y at*
  repeat'(first|refine zq (I hb1 (I hb2 (I hat (I @zkX zca)))) ?_|exact zd (I hb1 (I hb2 (I hat (I @zkX zca))))|refine zc (hbl) ?_|refine zg (hbl) ?_|(refine zaa ?_ ?_<;>intro hb)|(refine And.intro ?_ ?_;exact zI)|(refine And.intro ?_ ?_<;>intro hg)|exact zC|fail)
  refine zj (d2) ?_
  repeat'(first|refine zq0 ?_|exact zd0|(refine zaa ?_ ?_<;>intro hb)|(refine And.intro ?_ ?_;exact zI)|(refine And.intro ?_ ?_<;>intro hg)|exact zC|fail)
  refine zj (d1) ?_
  repeat'(first|refine zq0 ?_|exact zd0|(refine zaa ?_ ?_<;>intro hb)|(refine And.intro ?_ ?_;exact zI)|(refine And.intro ?_ ?_<;>intro hg)|exact zC|fail)
  refine hK _ (i+1,y.1) (Gh.canon [4,20,21] [] [] (zk hw) rfl rfl) ⟨hi,h20,hmk⟩ trivial (by simp only;omega)
 ·have hcond:(decide ((i:Int)<rows.length)&&decide ((i:Int)<20))=false:=by
   rw[Bool.and_eq_false_iff]
   rcases Nat.lt_or_ge i rows.length with h|h
   ·right;simp;omega
   ·left;simp;omega
  have hH:zaS=2305843009213693952:=rfl
  obtain⟨q1,q2,q3,q4,q5⟩:=hr
  have hr0:rowOk ⟨r.time,r.view,0,r.acts⟩:=⟨q1,q2,zty,q4,q5⟩
  have hbl:=zke x hc.sm hc.rt hc.vw hc.sl ⟨r.time,r.view,0,r.acts⟩ hr0
  obtain⟨f1,f2,f3,f4⟩:=zdK j3 (by omega) hr0
  have g0:(zbw x ⟨r.time,r.view,0,r.acts⟩).fill=false:=rfl
  have gv:zde x (zbw x ⟨r.time,r.view,0,r.acts⟩)=true:=by unfold zde zbw;simp
  have f4:=f4 g0
  generalize zbw x ⟨r.time,r.view,0,r.acts⟩=b at*
  obtain⟨g1,g2,g3,g4,g5,g6,g7⟩:=zex f1 g0
  obtain⟨_,e1,e2⟩:=zdt gv
  obtain⟨m1,m2,m3,m4,m5,m6,m7,m8,m9⟩:=j3
  have hby':0≤by'∧by'<256:=hby
  obtain⟨k1,k2,k3,k4,k5,k6⟩:=f2
  have hb':Batch.ok {b with tip:=⟨b.tip.view+1+by',b.tip.slot⟩}:=⟨k1,by unfold i64;simp only;omega,k3,k4,k5,k6⟩
  have hvoid:doP x {b with tip:=⟨b.tip.view+1+by',b.tip.slot⟩}=({x with done:=x.done+1},[],false):=by
   unfold doP
   have hm:Batch.may {b with tip:=⟨b.tip.view+1+by',b.tip.slot⟩}=true:=zfG g0 g1 g2 (by simp only;omega) g4 g5 g6 g7
   have hv:zde x {b with tip:=⟨b.tip.view+1+by',b.tip.slot⟩}=false:=by unfold zde;simp;intro _ h;omega
   rw[if_neg (by rw[hm];simp),if_pos hv]
  have d1:=zkd x {b with tip:=⟨b.tip.view+1+by',b.tip.slot⟩} hb' hc.rt hc.nm hc.tk hc.dn
  rw[hvoid]at d1
  have hdo:doP {x with done:=x.done+1} b=(⟨x.lease,x.done+1+1,b.view,x.done+1+1,(zgb x b).1⟩,(zgb x b).2,true):=by
   unfold doP
   have hv:zde {x with done:=x.done+1} b=true:=gv
   rw[if_neg (by rw[f1];simp),if_neg (by rw[hv];simp)]
   rfl
  have d2:=zkd {x with done:=x.done+1} b ⟨k1,k2,k3,k4,k5,k6⟩ hc.rt hc.nm hc.tk (by simp only;omega)
  rw[hdo]at d2
  obtain⟨r1,r2,r3,r4,r5⟩:=zgd (x:=x) (b:=b) hc.rt hc.nm hc.tk g5
  have htm:zbR x.st b.time=max x.st.time b.time:=by
   unfold zbR
   split
   ·rename_i h;simp at h;omega
   ·rename_i h;simp at h;omega
  have s1:=ziE x hc.sm
  have s2:=ziE {x with done:=x.done+1} hc.sm
  have s3:=ziE ⟨x.lease,x.done+1+1,b.view,x.done+1+1,(zgb x b).1⟩ (zbG r1)
  have hsa:=zqb x.st x.st hc.sm hc.sm
  rw[zp7]at hsa
  generalize (zgb x b).1=S1 at*
  generalize (zgb x b).2=out at*
  have w1:IntKind.i64.wrap (b.tip.view+1)=b.tip.view+1:=wrap64 (by omega) (by omega)
  have w2:IntKind.i64.wrap by'=by':=zcB hby
  have w3:IntKind.i64.wrap (b.tip.view+1+by')=b.tip.view+1+by':=wrap64 (by omega) (by omega)
  have hd:=hc.dn
  have w4:IntKind.i64.wrap (x.done+1)=x.done+1:=wrap64 (by omega) (by omega)
  have w5:IntKind.i64.wrap (x.done+2)=x.done+2:=wrap64 (by omega) (by omega)
  have c1:decide ((out.length:Int)≤b.reqs.length)=true:=by simp;omega
  have c2:(x.done+1+1==x.done+2)=true:=by simp;omega
  have c3:(S1.time==max x.st.time b.time)=true:=by rw[r4,htm];simp
  repeat'(first|refine zq (I hcond (I w1 (I w2 w3))) ?_|exact zd (I hcond (I w1 (I w2 w3)))|refine zc (hbl) ?_|refine zg (hbl) ?_|refine zc (s1) ?_|refine zg (s1) ?_|(refine zaa ?_ ?_<;>intro hb)|(refine And.intro ?_ ?_;exact zI)|(refine And.intro ?_ ?_<;>intro hg)|exact zC|fail)
  refine zj (d1) ?_
  have z0:(((0:Nat):Int) !=0)=false:=rfl
  repeat'(first|refine zq (I w4 z0) ?_|exact zd (I w4 z0)|refine zc (s2) ?_|refine zg (s2) ?_|refine zc (hsa) ?_|refine zg (hsa) ?_|(refine zaa ?_ ?_<;>intro hb)|(refine And.intro ?_ ?_;exact zI)|(refine And.intro ?_ ?_<;>intro hg)|exact zC|fail)
  refine zj (d2) ?_
  repeat'(first|refine zq (I c1 (I c2 (I c3 w5))) ?_|exact zd (I c1 (I c2 (I c3 w5)))|refine zc (s3) ?_|refine zg (s3) ?_|refine zc (haw) ?_|refine zg (haw) ?_|(refine zaa ?_ ?_<;>intro hb)|(refine And.intro ?_ ?_;exact zI)|(refine And.intro ?_ ?_<;>intro hg)|exact zC|fail)
abbrev zvC (l:List Int):List D:=l.map uD
def zqW (v:Int) (k:Nat):Int:=IntKind.u8.wrap (v.fdiv (2^(8*(7 - k))))
def zv6 (v:Int):List Int:=(List.range 8).map (zqW v)
abbrev zv7 (v:Int) (i:Nat):List D:=(List.range 8).map fun k=>uD (if k<i then zqW v k else 0)
abbrev ztx (s:ByteArray):List D:=s.data.toList.map fun b=>uD b.toNat
def zvU (s:ByteArray):List D:=uD s.size::ztx s
def zv8 (ls:List (List D)) (i:Nat):List D:=if i=0 then zc2 [.int .u8 0] ls.flatten.length else(ls.take i).flatten
abbrev zv9 (ls:List (List D)):List D:=ls.map fun l=> .sl l.length l
theorem ztw {n:Int} (h:(Lit.int .u8 n).wf=true):zcn n:=by
 have h2:(decide (IntKind.u8.min≤n)&&decide (n≤IntKind.u8.max))=true:=h
 have e1:IntKind.u8.min=0:=by decide
 have e2:IntKind.u8.max=255:=by decide
 rw[e1,e2]at h2
 simp only[Bool.and_eq_true,decide_eq_true_eq]at h2
 unfold zcn
 omega
theorem zkV {α:Type} {enc:α→List D} {ok:α→Prop} {s:Sh} (h:∀ds,ShD s ds→∃x,ds=enc x∧ok x):∀xs:List (List D),(∀x∈xs,ShD s x)→∃l:List α,l.length=xs.length∧xs.flatten=l.flatMap enc∧∀x∈l,ok x
 |[],_=>⟨[],rfl,rfl,fun x hx=>by cases hx⟩
 |x::xs,hx=>by
  obtain⟨a,ha1,ha2⟩:=h x (hx x (by simp))
  obtain⟨l,h1,h2,h3⟩:=zkV h xs fun y hy=>hx y (by simp[hy])
  refine⟨a::l,by simp[h1], ?_,fun y hy=> ?_⟩
  ·rw[List.flatten_cons,List.flatMap_cons,h2,ha1]
  ·rcases List.mem_cons.1 hy with rfl|hy
   ·exact ha2
   ·exact h3 y hy
theorem zoF:reachBytes<2^60:=by decide
theorem byte_of (ds:List D) (h:ShD (.int .u8) ds):∃x:Int,ds=[uD x]∧zcn x:=by
 simp only[ShD]at h
 obtain⟨n,rfl,hn⟩:=h
 exact⟨n,rfl,ztw hn⟩
abbrev zsb:Sh:= .struct [.int .u8, .int .u8, .int .u8, .int .u8, .int .u8, .int .u8]
theorem zs7 (ds:List D) (h:ShD zsb ds):∃a:Act,ds=a.enc∧ziM a:=by
 rw[ShD]at h
 simp only[ShDs]at h
 obtain⟨_,_,rfl,h1,_,_,rfl,h2,_,_,rfl,h3,_,_,rfl,h4,_,_,rfl,h5,_,_,rfl,h6,rfl⟩:=h
 obtain⟨a,rfl,ha⟩:=byte_of _ h1
 obtain⟨b,rfl,hb⟩:=byte_of _ h2
 obtain⟨c,rfl,hc⟩:=byte_of _ h3
 obtain⟨d,rfl,hd⟩:=byte_of _ h4
 obtain⟨e,rfl,he⟩:=byte_of _ h5
 obtain⟨f,rfl,hf⟩:=byte_of _ h6
 exact⟨⟨a,b,c,d,e,f⟩,rfl,ha,hb,hc,hd,he,hf⟩
theorem zsc (ds:List D) (h:ShD (.slice 6 zsb) ds):∃l:List Act,ds=[.sl l.length (ziL l)]∧l.length<2^60∧∀x∈l,ziM x:=by
 rw[ShD]at h
 obtain⟨xs,rfl,hx1,hx2⟩:=h
 obtain⟨l,l1,l2,l3⟩:=zkV zs7 xs hx2
 have:=zoF
 exact⟨l,by rw[←l1,l2],by omega,l3⟩
def zvT (n:Int):Prop:=0≤n∧n<65536
abbrev wD (n:Int):D:= .v (.int .u16 n)
abbrev aw (n:Int):AV:= .one (.d (wD n))
abbrev ziI:Sh:= .struct [.int .u8, .int .u8, .int .u8, .slice 6 zsb]
theorem row_of (ds:List D) (h:ShD ziI ds):∃r:Row,ds=r.enc∧rowOk r:=by
 rw[ShD]at h
 simp only[ShDs]at h
 obtain⟨_,_,rfl,h1,_,_,rfl,h2,_,_,rfl,h3,_,_,rfl,h4,rfl⟩:=h
 obtain⟨a,rfl,ha⟩:=byte_of _ h1
 obtain⟨b,rfl,hb⟩:=byte_of _ h2
 obtain⟨c,rfl,hc⟩:=byte_of _ h3
 obtain⟨l,rfl,hl,hl2⟩:=zsc _ h4
 exact⟨⟨a,b,c,l⟩,rfl,ha,hb,hc,hl,hl2⟩
theorem zqY (ds:List D) (h:ShD (.slice 32 ziI) ds):∃l:List Row,ds=[.sl l.length (zlU l)]∧l.length<2^60∧∀x∈l,rowOk x:=by
 rw[ShD]at h
 obtain⟨xs,rfl,hx1,hx2⟩:=h
 obtain⟨l,l1,l2,l3⟩:=zkV row_of xs hx2
 have:=zoF
 exact⟨l,by rw[←l1,l2],by omega,l3⟩
abbrev ztf:Sh:= .struct [.int .i64, .int .i64, .struct [.int .i64, .int .i64, .str]]
abbrev ztg:Sh:= .struct [.bool, .int .i64, .struct [.int .i64, .int .i64], .int .i64, .slice 48 ztf]
end Go.Proofs.YtngleemijkaeoaaGreat
