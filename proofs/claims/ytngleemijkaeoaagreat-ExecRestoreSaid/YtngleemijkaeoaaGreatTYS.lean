import Derived.Test.YtngleemijkaeoaaGreatK9
import Derived.JoinedOf
import Derived.Handed
import Derived.ProofKit
import Derived.Test.YtngleemijkaeoaaGreatEG
namespace Go.Proofs.YtngleemijkaeoaaGreat
open Go.Pk
set_option maxRecDepth 100000
set_option linter.unusedSimpArgs false
set_option linter.unusedVariables false
theorem reqsE_snoc {l:List Req} {r:Req}:zbF (l++[r])=zbF l++r.enc:=by simp[zbF]
theorem reqs_take {l:List Req}:(zbF l).take (l.length*5)=zbF l:=zcM Req.enc 5 (fun _=>rfl) l
theorem zqV {l:List Req} {k:Nat} (hk:k<l.length) (c:Int) (b:Bool):(b||(l.drop k).any fun o=>o.client==c)=((b||(l[k].client==c))||(l.drop (k+1)).any fun o=>o.client==c):=by
 rw[List.drop_eq_getElem_cons hk,List.any_cons,Bool.or_assoc]
abbrev zvL (r:Row):Nat×RS:=(3,{next:=2,l:=[some {e:=1,var:=true,fz:=false,sz:=0,cells:=[.d (uD r.time), .d (uD r.view), .d (uD r.kind), .d (.sl r.acts.length (zf6 r.acts))]},none,none,none,none]})
abbrev zvM:Nat×RS:=(4,{next:=2,l:=[some {e:=1,var:=true,fz:=false,sz:=0,cells:=[db false,di 0,di 0,di 0,di 0, .d (.v (.slice none 0 0))]},none,none,none,none,none,none]})
set_option maxHeartbeats 4000000 in
theorem zoH (x:XS) (hsm:Small x.st) (hr:RightS x.st) (r:Row) (h3:r.acts.length<2^60) (h5:∀a∈r.acts,zha a) (V S Z:Int) (B:Batch) (hB:B=⟨false,V,⟨x.view,S⟩,Z,zf5 x.st r.acts []⟩) (c d:Code)
  (hc:zek 6 (Tryz.f10.body.getD .skip)=some c) (hd:zek 17 (Tryz.f10.body.getD .skip)=some d):
  awp Ty Tryz.prog c ⟨[x.at,dd,dd, .one (.ptr ⟨3,0,1⟩ 0), .one (.ptr ⟨4,0,1⟩ 0), .one (.ptr ⟨5,0,1⟩ 0),dd,dd,dd,dd,dd,dd,dd,dd,dd,dd,dd,dd,dd,dd,dd,dd,dd,dd,dd,dd,dd,dd,dd,dd,dd,dd,dd,dd,dd,dd,dd,dd,dd,dd,dd,dd,dd,dd,dd,dd,dd,dd,dd,dd,dd,dd,dd,dd,dd,dd,dd,dd,dd,dd,dd,dd,dd,dd,dd,dd,dd,dd,dd,dd,dd,dd,dd,dd,dd,dd,dd,dd,dd,dd,dd,dd,dd,dd,dd,dd,dd,dd,dd,dd,dd,dd,dd,dd,dd,dd,dd,dd,dd,dd,dd],[zvL r,zvM,(5,{next:=2,l:=[some {e:=1,var:=true,fz:=false,sz:=0,cells:=[db false,di V,di x.view,di S,di Z, .d (.v (.slice none 0 0))]},none,none,none,none,none,none]})]⟩ (zf4 Ty Tryz.prog d (zpv Ty [.cell 4 34] [] (fun q o=>zbj q [.agg (B.enc.map RO.d)]∧o=[]))):=by
 simp only[Tryz.f10,Option.getD,zek,Nat.reduceBEq,if_true,if_false,Bool.false_eq_true,Option.none_or,Option.some_or,Option.some.injEq]at hc hd
 subst hc hd
 repeat'(first|refine zq0 ?_|exact zd0|(refine zaa ?_ ?_<;>intro hb)|(refine And.intro ?_ ?_;exact zI)|(refine And.intro ?_ ?_<;>intro hg)|exact zC|fail)
 refine zao (τ:=Nat×List Req) (fun t=>⟨[x.at,dd,dd, .one (.ptr ⟨3,0,1⟩ 0), .one (.ptr ⟨4,0,1⟩ 0), .one (.ptr ⟨5,0,1⟩ 0),ai t.1,dd,dd,dd,dd,dd,dd,dd,dd,dd,dd,dd,dd,dd,dd,dd,dd,dd,dd,dd,dd,dd,dd,dd,dd,dd,dd,dd,dd,dd,dd,dd,dd,dd,dd,dd,dd,dd,dd,dd,dd,dd,dd,dd,dd,dd,dd,dd,dd,dd,dd,dd,dd,dd,dd,dd,dd,dd,dd,dd,dd,dd,dd,dd,dd,dd,dd,dd,dd,dd,dd,dd,dd,dd,dd,dd,dd,dd,dd,dd,dd,dd,dd,dd,dd,dd,dd,dd,dd,dd,dd,dd,dd,dd,dd],[zvL r,zvM,(5,{next:=2,l:=[some {e:=1,var:=true,fz:=false,sz:=0,cells:=[db false,di V,di x.view,di S,di Z, .own ⟨5,6,1⟩ 0 t.2.length]},none,none,none,none,none,some {e:=1,var:=false,fz:=false,sz:=5,cells:=(zbF t.2).map C.d}]}),(7,⟨2,[]⟩),(97,⟨2,[]⟩),(98,⟨2,[]⟩)]⟩)
  (fun t=>t.1≤r.acts.length∧t.2.length≤3) (fun t=>zf5 x.st (r.acts.drop t.1) t.2) (fun t=>r.acts.length - t.1) (0,[])
  ((Gh.nilF 5 5 5 rfl).trans (Gh.canon [3,4,5] [7,97,98] [] (zk @zd7) rfl rfl)) ⟨Nat.zero_le _,by simp⟩ ?_
 intro⟨i,l⟩ ⟨j1,j2⟩ hF K hK
 simp only[List.drop_zero]at j1 j2 hF hK⊢
 have hF0:=hF
 have hlt3:decide ((l.length:Int)<3)=true∨decide ((l.length:Int)<3)=false:=by cases decide ((l.length:Int)<3)<;>simp
 by_cases hi:i<r.acts.length
 ·have hlb:decide ((i:Int)<r.acts.length)=true:=by simp;omega
  rw[List.drop_eq_getElem_cons hi,zf5]at hF
  rcases hlt3 with hl3|hl3
  ·rw[if_pos hl3]at hF
   have hl3':l.length<3:=by simp at hl3;omega
   have hat:=zoR hi
   have hw:=zan hi (by omega)
   have hrq:=zil x.st hsm hr r.acts[i] (h5 _ (List.getElem_mem hi))
   generalize zgN x.st r.acts[i]=q at*
   repeat'(first|refine zq (I hlb (I hl3 (I hat (I @zgM zca)))) ?_|exact zd (I hlb (I hl3 (I hat (I @zgM zca))))|refine zc (hrq) ?_|refine zg (hrq) ?_|(refine zaa ?_ ?_<;>intro hb)|(refine And.intro ?_ ?_;exact zI)|(refine And.intro ?_ ?_<;>intro hg)|exact zC|fail)
   refine zao (τ:=Nat×Bool) (fun u=>⟨[x.at,dd,dd, .one (.ptr ⟨3,0,1⟩ 0), .one (.ptr ⟨4,0,1⟩ 0), .one (.ptr ⟨5,0,1⟩ 0),ai i, .one (.ptr ⟨7,0,1⟩ 0),ab u.2,ai u.1,dd,dd,dd,dd,dd,dd,dd,dd,dd,dd,dd,dd,dd,dd,dd,dd,dd,dd,dd,dd,dd,dd,dd,dd,dd,dd,dd,dd,dd,dd,dd,dd,dd,dd,dd,dd,dd,dd,dd,dd,dd,dd,dd,dd,dd,dd,dd,dd,dd,dd,dd,dd,dd,dd,dd,dd,dd,dd,dd,dd,dd,dd,dd,dd,dd,dd,dd,dd,dd,dd,dd,dd,dd,dd,dd,dd,dd,dd,dd,dd,dd,dd,dd,dd,dd,dd,dd,dd,dd,dd,dd],[zvL r,zvM,(5,{next:=2,l:=[some {e:=1,var:=true,fz:=false,sz:=0,cells:=[db false,di V,di x.view,di S,di Z, .own ⟨5,6,1⟩ 0 l.length]},none,none,none,none,none,some {e:=1,var:=false,fz:=false,sz:=5,cells:=(zbF l).map C.d}]}),(7,{next:=2,l:=[some {e:=1,var:=true,fz:=false,sz:=0,cells:=[di q.client,di q.seq,di q.kind,di q.session,dS q.name]},none,none,none,none,none]}),(97,⟨2,[]⟩),(98,⟨2,[]⟩)]⟩)
    (fun u=>u.1≤l.length) (fun u=>u.2||(l.drop u.1).any fun o=>o.client==q.client) (fun u=>l.length - u.1) (0,false)
    (Gh.canon [3,4,5,7] [] [] (zk @zd7) rfl rfl) (Nat.zero_le _) ?_
   intro⟨k,inn⟩ m1 hG K2 hK2
   simp only[List.drop_zero,Bool.false_or]at m1 hG hK2⊢
   by_cases hk:k<l.length
   ·have hkb:decide ((k:Int)<l.length)=true:=by simp;omega
    have hkat:=zd5 hk
    have hkw:=zan hk (by omega)
    have hst:=zqV hk q.client inn
    cases inn
    ·cases hq:(l[k].client==q.client)
     ·rw[hq]at hst
      repeat'(first|refine zq (I hkb (I @zmd (I hkat (I hq (I @List.map_cons.{0,0} (I @zaZ zca)))))) ?_|exact zd (I hkb (I @zmd (I hkat (I hq (I @List.map_cons.{0,0} (I @zaZ zca))))))|(refine zaa ?_ ?_<;>intro hb)|(refine And.intro ?_ ?_;exact zI)|(refine And.intro ?_ ?_<;>intro hg)|exact zC|fail)
      refine hK2 _ (k+1,false) (Gh.canon [3,4,5,7] [] [] (zk (I hkw @zd7)) rfl rfl) hk hst.symm (by simp only;omega)
     ·rw[hq]at hst
      repeat'(first|refine zq (I hkb (I @zmd (I hkat (I hq (I @List.map_cons.{0,0} (I @zaZ zca)))))) ?_|exact zd (I hkb (I @zmd (I hkat (I hq (I @List.map_cons.{0,0} (I @zaZ zca))))))|(refine zaa ?_ ?_<;>intro hb)|(refine And.intro ?_ ?_;exact zI)|(refine And.intro ?_ ?_<;>intro hg)|exact zC|fail)
      refine hK2 _ (k+1,true) (Gh.canon [3,4,5,7] [] [] (zk (I hkw @zd7)) rfl rfl) hk hst.symm (by simp only;omega)
    ·repeat'(first|refine zq (I hkb (I @zmd (I hkat (I @List.map_cons.{0,0} (I @zaZ zca))))) ?_|exact zd (I hkb (I @zmd (I hkat (I @List.map_cons.{0,0} (I @zaZ zca)))))|(refine zaa ?_ ?_<;>intro hb)|(refine And.intro ?_ ?_;exact zI)|(refine And.intro ?_ ?_<;>intro hg)|exact zC|fail)
     refine hK2 _ (k+1,true) (Gh.canon [3,4,5,7] [] [] (zk (I hkw @zd7)) rfl rfl) hk (by simp) (by simp only;omega)
   ·have hk':k=l.length:=by omega
    have hkb:decide ((k:Int)<l.length)=false:=by simp;omega
    rw[hk',List.drop_length,List.any_nil,Bool.or_false]at hG
    cases inn
    ·rw[if_neg (by rw[←hG];simp)]at hF
     have hle:((l.length+1)*48≤2^47)=True:=eq_true (by omega)
     repeat'(first|refine zq (I hkb (I hle @reqs_take)) ?_|exact zd (I hkb (I hle @reqs_take))|(refine zaa ?_ ?_<;>intro hb)|(refine And.intro ?_ ?_;exact zI)|(refine And.intro ?_ ?_<;>intro hg)|exact zC|fail)
     refine hK _ (i+1,l++[q]) (Gh.canon [3,4,5] [] [] (zk (I hw (I @zd7 (I @List.length_append.{0} @List.length_singleton.{0})))) rfl (by simp only[List.length_append,List.length_singleton];rw[reqsE_snoc];rfl)) ⟨hi,by simp only[List.length_append,List.length_singleton];omega⟩ (hF.trans hF0.symm) (by simp only;omega)
    ·rw[if_pos hG.symm]at hF
     repeat'(first|refine zq hkb ?_|exact zd hkb|(refine zaa ?_ ?_<;>intro hb)|(refine And.intro ?_ ?_;exact zI)|(refine And.intro ?_ ?_<;>intro hg)|exact zC|fail)
     refine hK _ (i+1,l) (Gh.canon [3,4,5] [] [] (zk (I hw @zd7)) rfl rfl) ⟨hi,j2⟩ (hF.trans hF0.symm) (by simp only;omega)
  ·rw[if_neg (by rw[hl3];simp)]at hF
   repeat'(first|refine zq (I hlb hl3) ?_|exact zd (I hlb hl3)|(refine zaa ?_ ?_<;>intro hb)|(refine And.intro ?_ ?_;exact zI)|(refine And.intro ?_ ?_<;>intro hg)|exact zC|fail)
   rw[hB,←hF]
   exact⟨⟨.inl rfl, .inl rfl, .inl rfl, .inl rfl, .inl rfl, .inr ⟨rfl,rfl,zaZ⟩,trivial⟩,trivial⟩
 ·have hi':i=r.acts.length:=by omega
  have hlb:decide ((i:Int)<r.acts.length)=false:=by simp;omega
  rw[hi',List.drop_length,zf5]at hF
  repeat'(first|refine zq hlb ?_|exact zd hlb|(refine zaa ?_ ?_<;>intro hb)|(refine And.intro ?_ ?_;exact zI)|(refine And.intro ?_ ?_<;>intro hg)|exact zC|fail)
  rw[hB,←hF]
  exact⟨⟨.inl rfl, .inl rfl, .inl rfl, .inl rfl, .inl rfl, .inr ⟨rfl,rfl,zaZ⟩,trivial⟩,trivial⟩
set_option maxHeartbeats 4000000 in
theorem zh6 (x:XS) (hsm:Small x.st) (hr:RightS x.st) (hv:0≤x.view∧x.view≤zaL) (hs:0≤x.slot∧x.slot<2^60) (r:Row) (h:rowOk r):
  CallOK Tryz.prog 10 [.f x.at, .f (.agg [.d (uD r.time), .d (uD r.view), .d (uD r.kind), .d (.sl r.acts.length (zf6 r.acts))])] (fun q o=>q=[.agg ((zbD x r).enc.map RO.d)]∧o=[]):=by
 have hH:zaL=2305843009213693952:=rfl
 refine CallOK.nil ?_
 refine zac zar mixed (T:=Ty) (n:=101) Tryz.func10 (c:=Tryz.f10.body.getD .skip) rfl Tryz.results10 Tryz.ntmps10 Tryz.call10 ?_
 simp only[Tryz.f10,Option.getD]
 obtain⟨h1,h2,h3,h4,h5⟩:=h
 have ht0:=hr.time
 have tk:r.kind.tmod 8=r.kind % 8:=zci h3.1 8
 cases k7:(r.kind % 8==7)
 case true=>
  have hb:zbD x r=⟨true,0,⟨0,0⟩,0,[]⟩:=by unfold zbD;rw[if_pos k7]
  rw[hb]
  repeat'(first|refine zq (I tk k7) ?_|exact zd (I tk k7)|(refine zaa ?_ ?_<;>intro hb)|(refine And.intro ?_ ?_;exact zI)|(refine And.intro ?_ ?_<;>intro hg)|exact zC|fail)
  simp[zbj,zdo,zbr,za4]
 have hv0:=zbI h2
 have hv1:r.view.tmod 3=r.view % 3:=zci h2.1 3
 have ht1:=zbI h1
 have ht2:r.time.tmod 30=r.time % 30:=zci h1.1 30
 have hw1:IntKind.i64.wrap (x.view+r.view % 3)=x.view+r.view % 3:=wrap64 (by omega) (by omega)
 have hw2:IntKind.i64.wrap (x.st.time+r.time % 30)=x.st.time+r.time % 30:=wrap64 (by omega) (by omega)
 have hw3:IntKind.i64.wrap (x.slot+1)=x.slot+1:=wrap64 (by omega) (by omega)
 have hb:zbD x r=⟨false,x.view+r.view % 3,⟨x.view,if(r.kind % 8==6)=true then x.slot+1 else x.slot⟩,x.st.time+r.time % 30,zf5 x.st r.acts []⟩:=by unfold zbD;rw[if_neg (by rw[k7];simp)]
 rw[hb]
 obtain⟨V,hV⟩:∃V,V=x.view+r.view % 3:=⟨_,rfl⟩
 obtain⟨Z,hZ⟩:∃Z,Z=x.st.time+r.time % 30:=⟨_,rfl⟩
 rw[←hV]at hw1⊢
 rw[←hZ]at hw2⊢
 obtain⟨S,hS⟩:∃S,S=if(r.kind % 8==6)=true then x.slot+1 else x.slot:=⟨_,rfl⟩
 rw[←hS]
 have tail:=zoH x hsm hr r h4 h5 V S Z ⟨false,V,⟨x.view,S⟩,Z,zf5 x.st r.acts []⟩ rfl
 cases k6:(r.kind % 8==6)
 ·rw[k6]at hS
  have hS:S=x.slot:=hS
  repeat'(first|(with_reducible first|refine za3 6 ?_|refine zaP 6 ?_|refine zaQ 6 ?_)|refine zu (I tk (I k7 (I k6 (I hv0 (I hv1 (I ht1 (I ht2 (I (Eq.symm hV) (I hw1 (I (Eq.symm hZ) hw2)))))))))) ?_|exact zd (I tk (I k7 (I k6 (I hv0 (I hv1 (I ht1 (I ht2 (I (Eq.symm hV) (I hw1 (I (Eq.symm hZ) hw2))))))))))|(with_reducible first|refine zab _ _ ?_)|(refine zaa ?_ ?_<;>intro hb)|(refine And.intro ?_ ?_;exact zI)|(refine And.intro ?_ ?_<;>intro hg)|exact zC|fail)
  refine zpj ?_ (tail _ _ (by kernel_rfl) (by kernel_rfl))
  rw[hS]
  exact Gh.canon [3,4,5] [] [] (zk @zd7) rfl rfl
 ·rw[k6]at hS
  have hS:S=x.slot+1:=hS
  repeat'(first|(with_reducible first|refine za3 6 ?_|refine zaP 6 ?_|refine zaQ 6 ?_)|refine zu (I tk (I k7 (I k6 (I hv0 (I hv1 (I ht1 (I ht2 (I (Eq.symm hV) (I hw1 (I (Eq.symm hZ) (I hw2 hw3))))))))))) ?_|exact zd (I tk (I k7 (I k6 (I hv0 (I hv1 (I ht1 (I ht2 (I (Eq.symm hV) (I hw1 (I (Eq.symm hZ) (I hw2 hw3)))))))))))|(with_reducible first|refine zab _ _ ?_)|(refine zaa ?_ ?_<;>intro hb)|(refine And.intro ?_ ?_;exact zI)|(refine And.intro ?_ ?_<;>intro hg)|exact zC|fail)
  refine zpj ?_ (tail _ _ (by kernel_rfl) (by kernel_rfl))
  rw[hS]
  exact Gh.canon [3,4,5] [] [] (zk @zd7) rfl rfl
theorem zh4 {s:St} {l:List Memo} {rs:List Req} {i:Nat} (hi:i<rs.length):zdz s (rs.drop i) l=zdz (zaD s rs[i]).1 (rs.drop (i+1)) (if zaT s.memos rs[i].client rs[i].seq= -1 then l else l++[⟨rs[i].client,rs[i].seq,(zaD s rs[i]).2.1⟩]):=by
 rw[List.drop_eq_getElem_cons hi,zdz]
abbrev xsR (nx:Nat) (l d v s:Int) (st:St):Nat×RS:=(0,{next:=nx,l:=[some {e:=0,var:=true,fz:=false,bor:=true,sz:=0,cells:=[di l,di d,di v,di s,di st.time,di st.num,di st.token, .d (.sl st.sess.length (zaE st.sess)), .d (.sl st.locks.length (zaf st.locks)), .d (.sl st.memos.length (zav st.memos))]},none,none,none,none,none,none,none,none,none,none]})
theorem memosE_snoc {l:List Memo} {m:Memo}:zav (l++[m])=zav l++m.enc:=by simp[zav]
set_option maxHeartbeats 4000000 in
theorem zh5 (x:XS) (b:Batch) (hb:b.ok) (hr:RightS x.st) (hN:x.st.num+3≤zaL) (hT:x.st.token+16≤zaL) (hd:0≤x.done∧x.done<2^60):
  CallOK Tryz.prog 12 [.obj x.ro, .f (.agg b.lent)] (fun r o=>r=[.one (.own 6 (doP x b).2.1.length (zav (doP x b).2.1) false),rb (doP x b).2.2]∧o=[(doP x b).1.ro]):=by
 refine CallOK.nil ?_
 refine zac zar mixed (T:=Ty) (n:=102) Tryz.func12 (c:=Tryz.f12.body.getD .skip) rfl Tryz.results12 Tryz.ntmps12 Tryz.call12 ?_
 simp only[Tryz.f12,Option.getD]
 have hmay:=zmy b hb
 have hval:=zsf ⟨x.view,x.slot⟩ b
 have hw1:IntKind.i64.wrap (x.done+1)=x.done+1:=wrap64 (by omega) (by omega)
 have hv':zdq x b=(!b.fill&&(b.tip.view==x.view&&b.tip.slot==x.slot)):=rfl
 cases hm:Batch.may b
 ·rw[hm]at hmay
  have hP:doP x b=(x,[],false):=by unfold doP;rw[if_pos hm]
  rw[hP]
  repeat'(first|refine zq0 ?_|exact zd0|refine zc (hmay) ?_|refine zg (hmay) ?_|(refine zaa ?_ ?_<;>intro hb)|(refine And.intro ?_ ?_;exact zI)|(refine And.intro ?_ ?_<;>intro hg)|exact zC|fail)
  simp[zbj,zdo,za4]
 rw[hm]at hmay
 cases hv:zdq x b
 ·rw[←hv',hv]at hval
  have hP:doP x b=({x with done:=x.done+1},[],false):=by unfold doP;rw[if_neg (by rw[hm];simp),if_pos hv]
  rw[hP]
  repeat'(first|refine zq hw1 ?_|exact zd hw1|refine zc (hmay) ?_|refine zg (hmay) ?_|refine zc (hval) ?_|refine zg (hval) ?_|(refine zaa ?_ ?_<;>intro hb)|(refine And.intro ?_ ?_;exact zI)|(refine And.intro ?_ ?_<;>intro hg)|exact zC|fail)
  simp[zbj,zdo,za4]
 rw[←hv',hv]at hval
 have hP:doP x b=(⟨x.lease,x.done+1,b.view,x.done+1,(zdB x b).1⟩,(zdB x b).2,true):=by unfold doP;rw[if_neg (by rw[hm];simp),if_neg (by rw[hv];simp)]
 rw[hP]
 obtain⟨_,_,_,_,hl3,_,_⟩:=zdY hm (zc4 hv).1
 have hadv:=ziq x.st (zaN hr) hr b.time x.lease
 obtain⟨r1,r2,r3,r4,r5⟩:=zbo hr b.time x.lease (by omega)
 have hran:zdB x b=zdz (zaU x.st b.time x.lease) b.reqs []:=rfl
 rw[hran]
 generalize zaU x.st b.time x.lease=s0 at*
 repeat'(first|refine zq hw1 ?_|exact zd hw1|refine zc (hmay) ?_|refine zg (hmay) ?_|refine zc (hval) ?_|refine zg (hval) ?_|refine zc (hadv) ?_|refine zg (hadv) ?_|(refine zaa ?_ ?_<;>intro hb)|(refine And.intro ?_ ?_;exact zI)|(refine And.intro ?_ ?_<;>intro hg)|exact zC|fail)
 refine zao (τ:=Nat×St×List Memo) (fun t=>⟨[.one (.ptr ⟨0,0,0⟩ 0),dd,dd,dd,dd,dd, .one (.ptr ⟨6,0,1⟩ 0), .one (.own ⟨7,1,1⟩ 0 t.2.2.length),dd,dd,dd,dd,dd,dd,dd,dd,dd,dd,dd,dd,dd,dd,dd,dd,dd,dd,dd,dd,dd,dd,dd,dd,dd,dd,dd,dd,dd,dd,dd,dd,dd,dd,dd,dd,dd,dd,dd,dd,dd,dd,dd,dd,dd,dd,dd,dd,dd,dd,dd,dd,dd,dd,dd,al b.reqs.length (zbF b.reqs),ai b.reqs.length,ai t.1,dd,dd,dd,dd,dd,dd,dd,dd,dd,dd,dd,dd,dd,dd,dd,dd,dd,dd,dd,dd,dd,dd,dd,dd,dd,dd,dd,dd,dd,dd,dd,dd,dd,dd,dd,dd],[xsR 4 x.lease (x.done+1) b.view (x.done+1) x.st,(3,⟨2,[]⟩),(6,{next:=2,l:=[some {e:=1,var:=true,fz:=false,sz:=0,cells:=[di t.2.1.time,di t.2.1.num,di t.2.1.token, .d (.sl t.2.1.sess.length (zaE t.2.1.sess)), .d (.sl t.2.1.locks.length (zaf t.2.1.locks)), .d (.sl t.2.1.memos.length (zav t.2.1.memos))]},none,none,none,none,none,none]}),(7,{next:=2,l:=[none,some {e:=1,var:=false,fz:=false,sz:=6,cells:=(zav t.2.2).map C.d}]}),(9,⟨2,[]⟩),(11,⟨2,[]⟩),(12,⟨2,[]⟩),(79,⟨2,[]⟩),(93,⟨2,[]⟩),(94,⟨2,[]⟩)]⟩)
  (fun t=>t.1≤b.reqs.length∧RightS t.2.1∧t.2.1.num≤x.st.num+t.1∧t.2.1.token≤x.st.token+4+4*t.1∧t.2.2.length≤t.1) (fun t=>zdz t.2.1 (b.reqs.drop t.1) t.2.2) (fun t=>b.reqs.length - t.1) (0,s0,[])
  ((Gh.nil (i:=7) (s:=7) (sz:=6) rfl).trans (Gh.canon [0,6,7] [9,11,12,79,93,94] [0] zK rfl rfl)) ⟨Nat.zero_le _,r1,by simp only;omega,by simp only;omega,Nat.le_refl _⟩ ?_
 intro⟨i,s,l⟩ ⟨j1,j2,j3,j4,j5⟩ hF K hK
 simp only[List.drop_zero]at j1 j2 j3 j4 j5 hF hK⊢
 refine zw ?_
 refine zaa (fun hlt=> ?_) (fun hge=> ?_)
 ·have hi:i<b.reqs.length:=by simpa using hlt
  have hF0:=hF
  rw[zh4 hi]at hF
  have hat:=zd5 hi
  have hw:=zan hi (by omega)
  have hro:=hb.2.2.2.2.2 _ (List.getElem_mem hi)
  have hstep:∀s' l',zdz s' (b.reqs.drop (i+1)) l'=zdz s' (b.reqs.drop (i+1)) l':=fun _ _=>rfl
  generalize b.reqs[i]=q at*
  have hsm:=zaN j2
  have hfr:=zjQ s.memos j2.ms hsm.memos q.client q.seq
  have hap:=zmJ s hsm j2 q hro (fun hm=>zdD j2 hm (by omega) (by omega))
  obtain⟨d1,d2,d3,d4,d5⟩:=zbs j2 q (by omega) (by omega)
  generalize (zaD s q).1=s1 at*
  generalize (zaD s q).2.1=rep at*
  generalize (zaD s q).2.2=okb at*
  have hln:((zbF b.reqs).length=b.reqs.length*5)=True:=eq_true zaZ
  cases f:(zaT s.memos q.client q.seq != -1)
  ·have f':zaT s.memos q.client q.seq= -1:=by simpa using f
   rw[if_pos f']at hF
   repeat'(first|refine zq (I hat (I @zaZ (I f zca))) ?_|exact zd (I hat (I @zaZ (I f zca)))|refine zc (hfr) ?_|refine zg (hfr) ?_|refine zc (hap) ?_|refine zg (hap) ?_|(refine zaa ?_ ?_<;>intro hb)|(refine And.intro ?_ ?_;exact zI)|(refine And.intro ?_ ?_<;>intro hg)|exact zC|fail)
   refine hK _ (i+1,s1,l) (Gh.canon [0,6,7] [] [0] (zk hw) rfl rfl) ⟨hi,d1,by simp only;omega,by simp only;omega,by simp only;omega⟩ (hF.trans hF0.symm) (by simp only;omega)
  ·have f':¬zaT s.memos q.client q.seq= -1:=by simpa using f
   rw[if_neg f']at hF
   have hle:((l.length+1)*64≤2^47)=True:=eq_true (by omega)
   repeat'(first|refine zq (I hat (I @zaZ (I f (I hle (I @zb3 (I @zaJ zca)))))) ?_|exact zd (I hat (I @zaZ (I f (I hle (I @zb3 (I @zaJ zca))))))|refine zc (hfr) ?_|refine zg (hfr) ?_|refine zc (hap) ?_|refine zg (hap) ?_|(refine zaa ?_ ?_<;>intro hb)|(refine And.intro ?_ ?_;exact zI)|(refine And.intro ?_ ?_<;>intro hg)|exact zC|fail)
   refine hK _ (i+1,s1,l++[⟨q.client,q.seq,rep⟩]) (Gh.canon [0,6,7] [] [0] (zk (I hw (I @List.length_append.{0} @List.length_singleton.{0}))) rfl (by simp only[List.length_append,List.length_singleton];rw[memosE_snoc];rfl)) ⟨hi,d1,by simp only;omega,by simp only;omega,by simp only[List.length_append,List.length_singleton];omega⟩ (hF.trans hF0.symm) (by simp only;omega)
 ·have hi:i=b.reqs.length:=by
   have:¬(i:Int)<b.reqs.length:=by simpa using hge
   omega
  rw[hi,List.drop_length,zdz]at hF
  rw[←hF]
  repeat'(first|refine zq @zaJ ?_|exact zd @zaJ|(refine zaa ?_ ?_<;>intro hb)|(refine And.intro ?_ ?_;exact zI)|(refine And.intro ?_ ?_<;>intro hg)|exact zC|fail)
  simp[zbj,zdo,za4]
set_option maxHeartbeats 4000000 in
theorem zs9 (x:XS) (b:Batch) (hb:b.ok) (hr:RightS x.st) (hN:x.st.num+3≤zaL) (hT:x.st.token+16≤zaL) (hd:0≤x.done∧x.done<2^60):
  CallOK Tryz.prog 11 [.obj x.ro, .f (.agg b.lent)] (fun r o=>r=[.one (.own 6 (doP x b).2.1.length (zav (doP x b).2.1) false),rb (doP x b).2.2]∧o=[(doP x b).1.ro]):=by
 refine CallOK.nil ?_
 refine zac zar mixed (T:=Ty) (n:=102) Tryz.func11 (c:=Tryz.f11.body.getD .skip) rfl Tryz.results11 Tryz.ntmps11 Tryz.call11 ?_
 simp only[Tryz.f11,Option.getD]
 have hmay:=zlN b hb
 have hval:=zqE ⟨x.view,x.slot⟩ b
 have hw1:IntKind.i64.wrap (x.done+1)=x.done+1:=wrap64 (by omega) (by omega)
 have hv':zdq x b=(!b.fill&&(b.tip.view==x.view&&b.tip.slot==x.slot)):=rfl
 cases hm:Batch.may b
 ·rw[hm]at hmay
  have hP:doP x b=(x,[],false):=by unfold doP;rw[if_pos hm]
  rw[hP]
  repeat'(first|refine zq0 ?_|exact zd0|refine zc (hmay) ?_|refine zg (hmay) ?_|(refine zaa ?_ ?_<;>intro hb)|(refine And.intro ?_ ?_;exact zI)|(refine And.intro ?_ ?_<;>intro hg)|exact zC|fail)
  simp[zbj,zdo,za4]
 rw[hm]at hmay
 cases hv:zdq x b
 ·rw[←hv',hv]at hval
  have hP:doP x b=({x with done:=x.done+1},[],false):=by unfold doP;rw[if_neg (by rw[hm];simp),if_pos hv]
  rw[hP]
  repeat'(first|refine zq hw1 ?_|exact zd hw1|refine zc (hmay) ?_|refine zg (hmay) ?_|refine zc (hval) ?_|refine zg (hval) ?_|(refine zaa ?_ ?_<;>intro hb)|(refine And.intro ?_ ?_;exact zI)|(refine And.intro ?_ ?_<;>intro hg)|exact zC|fail)
  simp[zbj,zdo,za4]
 rw[←hv',hv]at hval
 have hP:doP x b=(⟨x.lease,x.done+1,b.view,x.done+1,(zdB x b).1⟩,(zdB x b).2,true):=by unfold doP;rw[if_neg (by rw[hm];simp),if_neg (by rw[hv];simp)]
 rw[hP]
 obtain⟨_,_,_,_,hl3,_,_⟩:=zdY hm (zc4 hv).1
 have hadv:=zhW x.st (zaN hr) hr b.time x.lease
 obtain⟨r1,r2,r3,r4,r5⟩:=zbo hr b.time x.lease (by omega)
 have hran:zdB x b=zdz (zaU x.st b.time x.lease) b.reqs []:=rfl
 rw[hran]
 generalize zaU x.st b.time x.lease=s0 at*
 repeat'(first|refine zq hw1 ?_|exact zd hw1|refine zc (hmay) ?_|refine zg (hmay) ?_|refine zc (hval) ?_|refine zg (hval) ?_|refine zc (hadv) ?_|refine zg (hadv) ?_|(refine zaa ?_ ?_<;>intro hb)|(refine And.intro ?_ ?_;exact zI)|(refine And.intro ?_ ?_<;>intro hg)|exact zC|fail)
 refine zao (τ:=Nat×St×List Memo) (fun t=>⟨[.one (.ptr ⟨0,0,0⟩ 0),dd,dd, .one (.ptr ⟨3,0,1⟩ 0),dd,dd, .one (.own ⟨6,1,1⟩ 0 t.2.2.length),ai t.1,dd,dd,dd,dd,dd,dd,dd,dd,dd,dd,dd,dd,dd,dd,dd,dd,dd,dd,dd,dd,dd,dd,dd,dd,dd,dd,dd,dd,dd,dd,dd,dd,dd,dd,dd,dd,dd,dd,dd,dd,dd,dd,dd,dd,dd,dd,dd,dd,dd,dd,dd,dd,dd,dd,dd,dd,dd,dd,dd,dd,dd,dd,dd,dd,dd,dd,dd,dd,dd,dd,dd,dd,dd,dd,dd,dd,dd,dd,dd,dd,dd,dd,dd,dd,dd,dd,dd,dd,dd,dd,dd,dd,dd,dd],[xsR (10+6*t.1) x.lease (x.done+1) b.view (x.done+1) t.2.1,(3,{next:=2,l:=[some {e:=1,var:=true,fz:=false,sz:=0,cells:=[db b.fill,di b.view,di b.tip.view,di b.tip.slot,di b.time, .lent b.reqs.length (zbF b.reqs)]},none,none,none,none,none,none]}),(6,{next:=2,l:=[none,some {e:=1,var:=false,fz:=false,sz:=6,cells:=(zav t.2.2).map C.d}]}),(8,⟨2,[]⟩),(10,⟨2,[]⟩),(11,⟨2,[]⟩),(82,⟨2,[]⟩),(99,⟨2,[]⟩),(100,⟨2,[]⟩)]⟩)
  (fun t=>t.1≤b.reqs.length∧RightS t.2.1∧t.2.1.num≤x.st.num+t.1∧t.2.1.token≤x.st.token+4+4*t.1∧t.2.2.length≤t.1) (fun t=>zdz t.2.1 (b.reqs.drop t.1) t.2.2) (fun t=>b.reqs.length - t.1) (0,s0,[])
  ((Gh.nil (i:=6) (s:=6) (sz:=6) rfl).trans (Gh.canon [0,3,6] [8,10,11,82,99,100] [0] zK rfl rfl)) ⟨Nat.zero_le _,r1,by simp only;omega,by simp only;omega,Nat.le_refl _⟩ ?_
 intro⟨i,s,l⟩ ⟨j1,j2,j3,j4,j5⟩ hF K hK
 simp only[List.drop_zero]at j1 j2 j3 j4 j5 hF hK⊢
 refine zw ?_
 refine zaa (fun hlt=> ?_) (fun hge=> ?_)
 ·have hi:i<b.reqs.length:=by simpa using hlt
  have hF0:=hF
  rw[zh4 hi]at hF
  have hat:=zd5 hi
  have hw:=zan hi (by omega)
  have hro:=hb.2.2.2.2.2 _ (List.getElem_mem hi)
  have hstep:∀s' l',zdz s' (b.reqs.drop (i+1)) l'=zdz s' (b.reqs.drop (i+1)) l':=fun _ _=>rfl
  generalize b.reqs[i]=q at*
  have hsm:=zaN j2
  have hfr:=zfW s.memos (by have:=hsm.memos;omega) q.client q.seq
  have hap:=zlD s hsm j2 q hro (fun hm=>ze8 j2 hm (by omega) (by omega)) (fun hm=>zdD j2 hm (by omega) (by omega))
  have hnx:10+6*i+6=10+6*(i+1):=by omega
  obtain⟨d1,d2,d3,d4,d5⟩:=zbs j2 q (by omega) (by omega)
  generalize (zaD s q).1=s1 at*
  generalize (zaD s q).2.1=rep at*
  generalize (zaD s q).2.2=okb at*
  have hln:((zbF b.reqs).length=b.reqs.length*5)=True:=eq_true zaZ
  cases f:decide (zaT s.memos q.client q.seq≥0)
  ·have f':zaT s.memos q.client q.seq= -1:=by rcases zdT s.memos q.client q.seq with e|e|e<;>simp[e]at f⊢
   rw[if_pos f']at hF
   repeat'(first|refine zq (I hat (I @zaZ (I f zca))) ?_|exact zd (I hat (I @zaZ (I f zca)))|refine zc (hfr) ?_|refine zg (hfr) ?_|refine zc (hap) ?_|refine zg (hap) ?_|(refine zaa ?_ ?_<;>intro hb)|(refine And.intro ?_ ?_;exact zI)|(refine And.intro ?_ ?_<;>intro hg)|exact zC|fail)
   refine hK _ (i+1,s1,l) (Gh.canon [0,3,6] [] [0] (zk hw) rfl rfl) ⟨hi,d1,by simp only;omega,by simp only;omega,by simp only;omega⟩ (hF.trans hF0.symm) (by simp only;omega)
  ·have f':¬zaT s.memos q.client q.seq= -1:=by simp at f;omega
   rw[if_neg f']at hF
   have hle:((l.length+1)*64≤2^47)=True:=eq_true (by omega)
   repeat'(first|refine zq (I hat (I @zaZ (I f (I hle (I @zb3 (I @zaJ zca)))))) ?_|exact zd (I hat (I @zaZ (I f (I hle (I @zb3 (I @zaJ zca))))))|refine zc (hfr) ?_|refine zg (hfr) ?_|refine zc (hap) ?_|refine zg (hap) ?_|(refine zaa ?_ ?_<;>intro hb)|(refine And.intro ?_ ?_;exact zI)|(refine And.intro ?_ ?_<;>intro hg)|exact zC|fail)
   refine hK _ (i+1,s1,l++[⟨q.client,q.seq,rep⟩]) (Gh.canon [0,3,6] [] [0] (zk (I hw (I @List.length_append.{0} @List.length_singleton.{0}))) rfl (by simp only[List.length_append,List.length_singleton];rw[memosE_snoc];rfl)) ⟨hi,d1,by simp only;omega,by simp only;omega,by simp only[List.length_append,List.length_singleton];omega⟩ (hF.trans hF0.symm) (by simp only;omega)
 ·have hi:i=b.reqs.length:=by
   have:¬(i:Int)<b.reqs.length:=by simpa using hge
   omega
  rw[hi,List.drop_length,zdz]at hF
  rw[←hF]
  repeat'(first|refine zq @zaJ ?_|exact zd @zaJ|(refine zaa ?_ ?_<;>intro hb)|(refine And.intro ?_ ?_;exact zI)|(refine And.intro ?_ ?_<;>intro hg)|exact zC|fail)
  simp[zbj,zdo,za4]
def zso:Batch:=⟨true,0,⟨0,0⟩,0,[]⟩
def zvj:Batch:=⟨false,3,⟨0,0⟩,7,[⟨2,1,1,0, .empty⟩]⟩
def sOne:St:=⟨7,1,0,[⟨2,1,7⟩],[],[⟨2,1,⟨0,1,0,[]⟩⟩]⟩
theorem zuo:doP (znL 10) zso=(⟨10,1,0,0,st0⟩,[],false):=by kernel_rfl
theorem zvk:doP ⟨10,1,0,0,st0⟩ zvj=(⟨10,2,3,2,sOne⟩,[⟨2,1,⟨0,1,0,[]⟩⟩],true):=by kernel_rfl
set_option maxHeartbeats 2000000 in
theorem zgt:CallOK Tryz.prog 20 [] (fun r o=>r=[rb true]∧o=[]):=by
 refine zac zar mixed (T:=Ty) (n:=68) Tryz.func20 (c:=Tryz.f20.body.getD .skip) rfl Tryz.results20 Tryz.ntmps20 Tryz.call20 ?_
 simp only[Tryz.f20,Option.getD]
 have n1:=zj5 10 rfl
 have n0:=zsm 0 rfl
 have d1:=zh5 (znL 10) zso ⟨by unfold i64;decide,by unfold i64;decide,by unfold i64;decide,by unfold i64;decide,by decide,fun r hr=>by cases hr⟩ zcQ (by decide) (by decide) (by decide)
 rw[zuo]at d1
 have d1:CallOK Tryz.prog 12 [.obj (znL 10).ro, .f (.agg [db true,di 0,di 0,di 0,di 0, .lent 0 []])] (fun r o=>r=[.one (.own 6 0 [] false),rb false]∧o=[XS.ro ⟨10,1,0,0,st0⟩]):=d1
 have d2:=zh5 ⟨10,1,0,0,st0⟩ zvj ⟨by unfold i64;decide,by unfold i64;decide,by unfold i64;decide,by unfold i64;decide,by decide,fun r hr=>by
  simp only[zvj,List.mem_singleton]at hr
  subst hr
  exact⟨by unfold i64;decide,by unfold i64;decide,by unfold i64;decide,by unfold i64;decide,by decide⟩⟩ zcQ (by decide) (by decide) (by decide)
 rw[zvk]at d2
 have d2:CallOK Tryz.prog 12 [.obj (XS.ro ⟨10,1,0,0,st0⟩), .f (.agg [db false,di 3,di 0,di 0,di 7, .lent 1 [iD 2,iD 1,iD 1,iD 0,sD .empty]])] (fun r o=>r=[.one (.own 6 1 [iD 2,iD 1,iD 0,iD 1,iD 0, .sl 0 []] false),rb true]∧o=[XS.ro ⟨10,2,3,2,sOne⟩]):=d2
 have hr2:RightS sOne:=by
  have h:=(zei (x:=⟨10,1,0,0,st0⟩) (b:=zvj) zcQ (by decide) (by decide) (by decide)).1
  have e:(zdB ⟨10,1,0,0,st0⟩ zvj).1=sOne:=by kernel_rfl
  rwa[e]at h
 have c1:=zsn ⟨10,2,3,2,sOne⟩
 have c2:=zqU ⟨10,2,3,2,sOne⟩
 have c3:=zf1 ⟨10,2,3,2,sOne⟩ (zaN hr2)
 repeat'(first|(with_reducible first|refine zab _ _ ?_|refine zaV ?_|refine zaW ?_)|rw[zaj]|simp only[zY,Int.reduceEq,Int.reduceBEq,Int.reduceBNe,Nat.reduceSub,Nat.reduceEqDiff,Nat.reduceAdd,Nat.reduceMul,Nat.reduceLeDiff,Nat.reduceLT,Nat.reduceBEq,reduceCtorEq]|((first|((try refine zax ?_);apply zaA)|(apply zaB;intro _));(solve|exact(n0)|(refine CallOK.le (n0) ?_;exact zM)|fail);try case hn=>rfl)|refine zb0 (n1) ?_|(refine zb0 (CallP.le (n1) ?_) ?_;focus(simp[zbZ,aLe,zjt,cLe]<;>fail))|refine zal ?_|refine zaa (fun hb=> ?_) (fun hb=> ?_)|(refine And.intro ?_ ?_;exact zI)|refine And.intro (fun hg=> ?_) (fun hg=> ?_)|exact zC|fail)
 refine zj (d1) ?_
 repeat'(first|(with_reducible first|refine zab _ _ ?_|refine zaV ?_|refine zaW ?_)|rw[zaj]|simp only[zY,Int.reduceEq,Int.reduceBEq,Int.reduceBNe,Nat.reduceSub,Nat.reduceEqDiff,Nat.reduceAdd,Nat.reduceMul,Nat.reduceLeDiff,Nat.reduceLT,Nat.reduceBEq,reduceCtorEq]|((first|((try refine zax ?_);apply zaA)|(apply zaB;intro _));(solve|exact(n0)|(refine CallOK.le (n0) ?_;exact zM)|fail);try case hn=>rfl)|refine zb0 (n1) ?_|(refine zb0 (CallP.le (n1) ?_) ?_;focus(simp[zbZ,aLe,zjt,cLe]<;>fail))|refine zal ?_|refine zaa (fun hb=> ?_) (fun hb=> ?_)|(refine And.intro ?_ ?_;exact zI)|refine And.intro (fun hg=> ?_) (fun hg=> ?_)|exact zC|fail)
 refine zj (d2) ?_
 have hs7:(sOne.time==(7:Int))=true:=rfl
 have z1:((2:Int)==2)=true:=rfl
 have z2:((1:Int)==1)=true:=rfl
 have z3:((0:Int)==0)=true:=rfl
 repeat'(first|refine zq (I hs7 (I z1 (I z2 z3))) ?_|exact zd (I hs7 (I z1 (I z2 z3)))|refine zc (n0) ?_|refine zg (n0) ?_|refine zc (c1) ?_|refine zg (c1) ?_|refine zc (c2) ?_|refine zg (c2) ?_|refine zc (c3) ?_|refine zg (c3) ?_|(refine zaa ?_ ?_<;>intro hb)|(refine And.intro ?_ ?_;exact zI)|(refine And.intro ?_ ?_<;>intro hg)|exact zC|fail)
 rfl
theorem zqP (acts:List Act) (hl:acts.length<2^60) (ha:∀a∈acts,zha a) (d v s:Int) (hd:zbE d) (hv:zbE v) (hs:zbE s):
  CallOK Tryz.prog 28 [.f (al acts.length (zf6 acts)), .f (au d), .f (au v), .f (au s)] (fun r o=>r=[zvK ⟨d,v,s,znO acts⟩]∧o=[]):=by
 refine zac zar mixed (T:=Ty) (n:=19) Tryz.func28 (c:=Tryz.f28.body.getD .skip) rfl Tryz.results28 Tryz.ntmps28 Tryz.call28 ?_
 simp only[Tryz.f28,Option.getD]
 have hm:=zta acts hl ha
 have w1:=zbI hd
 have w2:=zbI hv
 have w3:=zbI hs
 repeat'(first|refine zq (I w1 (I w2 w3)) ?_|exact zd (I w1 (I w2 w3))|refine zc (hm) ?_|refine zg (hm) ?_|(refine zaa ?_ ?_<;>intro hb)|(refine And.intro ?_ ?_;exact zI)|(refine And.intro ?_ ?_<;>intro hg)|exact zC|fail)
 rfl
def zvJ (a b:Sn):Bool:=(a.done==b.done)&&((a.view==b.view)&&(a.slot==b.slot))&&zvn a.st b.st
theorem zed (a b:Sn) (ha:Small a.st) (hb:Small b.st):CallOK Tryz.prog 22 [.f (.agg a.lent), .f (.agg b.lent)] (fun r o=>r=[rb (zvJ a b)]∧o=[]):=by
 refine zac zar mixed (T:=Ty) (n:=24) Tryz.func22 (c:=Tryz.f22.body.getD .skip) rfl Tryz.results22 Tryz.ntmps22 Tryz.call22 ?_
 simp only[Tryz.f22,Option.getD]
 have hs:=znK a.st b.st ha hb
 repeat'(first|refine zq0 ?_|exact zd0|refine zc (hs) ?_|refine zg (hs) ?_|(refine zaa ?_ ?_<;>intro hb)|(refine And.intro ?_ ?_;exact zI)|(refine And.intro ?_ ?_<;>intro hg)|exact zC|fail)
 rfl
theorem zdV {α:Type} {eq:α→α→Bool} (h:∀a,eq a a=true) (l:List α):zdl eq l l=true:=by
 unfold zdl
 simp only[beq_self_eq_true,Bool.true_and,List.all_eq_true]
 intro p hp
 obtain⟨j,h1,h2⟩:=List.getElem_of_mem hp
 rw[←h2,List.getElem_zip]
 exact h _
theorem zoC (l:List Int):zdl zoD l l=true:=zdV (fun x=>by simp[zoD]) l
theorem zlS (l:List Grant):zdl zsk l l=true:=zdV (fun x=>by simp[zsk]) l
theorem znJ (s:St):zvn s s=true:=by
 unfold zvn
 rw[zdV (fun a=>by simp[zum]),zdV (fun a=>by simp[zsl,zoC]),zdV (fun a=>by simp[zj4,zlS])]
 simp
theorem zg4 (s:Sn):zvJ s s=true:=by simp[zvJ,znJ]
theorem zj2 {a:Memo} {c:Int} (hc:a.client≠c):∀{l:List Memo} {put:Bool},zaM (kR a l put) c=zaM l c
 |[],put=>by
  rw[kR]
  cases put
  ·simp[zaM,hc]
  ·simp[zaM]
 |m::r,put=>by
  have h1:=zj2 (l:=r) (put:=true) hc
  have h2:=zj2 (l:=r) (put:=put) hc
  unfold zaM at h1 h2⊢
  rw[kR]
  split
  ·rename_i h
   have h:m.client=a.client:=by simpa using h
   simp[List.find?_cons,hc,h,h1]
  ·split
   ·by_cases hm:m.client=c
    ·simp[List.find?_cons,hc,hm]
    ·simp[List.find?_cons,hc,hm,h1]
   ·by_cases hm:m.client=c
    ·simp[List.find?_cons,hm]
    ·simp[List.find?_cons,hm,h2]
theorem keep_other {l:List Memo} (hs:SM l) {a:Memo} {c:Int} (hc:a.client≠c):zaM (zcF l a) c=zaM l c:=by
 by_cases h:(!answerB a||(zaT l a.client a.seq !=1))=true
 ·unfold zcF;rw[if_pos h]
 ·have hk:zcF l a=kR a l false:=by
   rw[zjV hs]
   unfold zcF
   rw[if_neg h]
  rw[hk,zj2 hc]
theorem zmB {s:St} (hr:RightS s) {q:Req} {c:Int} (hc:q.client≠c):zaM (zaD s q).1.memos c=zaM s.memos c:=by
 unfold zaD
 split
 ·rfl
 ·split
  ·rfl
  ·split
   ·rfl
   ·simp only
    rw[zdC (zaN hr) q,keep_other hr.ms (by simpa using hc)]
theorem zlO:∀{rs:List Req} {s:St} {l:List Memo} {c:Int},RightS s→s.num+rs.length≤zaL→s.token+4*rs.length≤zaL→(∀r∈rs,r.client≠c)→zaM (zdz s rs l).1.memos c=zaM s.memos c
 |[],_,_,_,_,_,_,_=>rfl
 |r::rs,s,l,c,h,h1,h2,hc=>by
  rw[List.length_cons]at h1 h2
  obtain⟨d1,d2,d3,d4,d5⟩:=zbs h r (by omega) (by omega)
  rw[zdz,zlO d1 (by omega) (by omega) fun x hx=>hc x (by simp[hx]),zmB h (hc r (by simp))]
def zqM (s:St) (q:Req):List Memo:=if zaT s.memos q.client q.seq= -1 then []else [⟨q.client,q.seq,(zaD s q).2.1⟩]
theorem zeF (s:St) (q:Req) (rs:List Req) (l:List Memo):zdz s (q::rs) l=zdz (zaD s q).1 rs (l++zqM s q):=by
 rw[zdz,zqM]
 split
 ·rw[List.append_nil]
 ·rfl
theorem zmC {s t:St} (hr:RightS s) {q:Req} (hm:Req.may q=true) (hN:s.num+1≤zaL) (hT:s.token+4≤zaL) (ht:zaM t.memos q.client=zaM (zaD s q).1.memos q.client):
  (zaD t q).1=t∧zqM t q=zqM s q:=by
 rcases zdT s.memos q.client q.seq with e|e|e
 ·have hd:(zaD s q).2.2=true:=by
   unfold zaD
   rw[if_neg (by rw[hm];simp),if_neg (by rw[e];decide),if_neg (by rw[e];decide)]
  obtain⟨_,h2⟩:=zqC hr (zaN hr) hN hT hd
  rw[h2]at ht
  have ha:=zmx hm ht
  have hf:zaT t.memos q.client q.seq=0:=by unfold zaT;rw[ht];simp
  refine⟨by rw[ha], ?_⟩
  unfold zqM
  rw[if_neg (by rw[hf];decide),if_neg (by rw[e];decide),ha]
 ·have hs:(zaD s q).1=s:=by
   unfold zaD
   rw[if_neg (by rw[hm];simp),if_neg (by rw[e];decide),if_pos e]
  rw[hs]at ht
  have hf:zaT t.memos q.client q.seq=0:=by rw[←e];unfold zaT;rw[ht]
  have ha:∀u:St,zaT u.memos q.client q.seq=0→zaD u q=(u,((zaM u.memos q.client).map Memo.reply).getD ⟨0,0,0,[]⟩,false):=fun u hu=>by
   unfold zaD
   rw[if_neg (by rw[hm];simp),if_neg (by rw[hu];decide),if_pos hu]
  refine⟨by rw[ha t hf], ?_⟩
  unfold zqM
  rw[if_neg (by rw[hf];decide),if_neg (by rw[e];decide),ha t hf,ha s e,ht]
 ·have hs:(zaD s q).1=s:=by
   unfold zaD
   rw[if_neg (by rw[hm];simp),if_pos e]
  rw[hs]at ht
  have hf:zaT t.memos q.client q.seq= -1:=by rw[←e];unfold zaT;rw[ht]
  refine⟨by unfold zaD;rw[if_neg (by rw[hm];simp),if_pos hf], ?_⟩
  unfold zqM
  rw[if_pos hf,if_pos e]
theorem zlP:∀{rs:List Req} {s t:St} {l:List Memo},RightS s→s.num+rs.length≤zaL→s.token+4*rs.length≤zaL→(∀r∈rs,Req.may r=true)→(rs.Pairwise fun a b=>a.client≠b.client)→
  (∀r∈rs,zaM t.memos r.client=zaM (zdz s rs l).1.memos r.client)→∀l',∃o,zdz s rs l=((zdz s rs l).1,l++o)∧zdz t rs l'=(t,l'++o)
 |[],s,t,l,_,_,_,_,_,_=>fun l'=>⟨[],by simp[zdz],by simp[zdz]⟩
 |r::rs,s,t,l,h,h1,h2,hm,hp,hf=>fun l'=>by
  rw[List.length_cons]at h1 h2
  obtain⟨d1,d2,d3,d4,d5⟩:=zbs h r (by omega) (by omega)
  obtain⟨p1,p2⟩:=List.pairwise_cons.1 hp
  rw[zeF]at hf
  have hc:=hf r (by simp)
  rw[zlO d1 (by omega) (by omega) fun x hx=>(p1 x hx).symm]at hc
  obtain⟨a1,a2⟩:=zmC h (hm r (by simp)) (by omega) (by omega) hc
  obtain⟨o,o1,o2⟩:=zlP (rs:=rs) (s:=(zaD s r).1) (t:=t) (l:=l++zqM s r) d1 (by omega) (by omega) (fun x hx=>hm x (by simp[hx])) p2 (fun x hx=>hf x (by simp[hx])) (l'++zqM t r)
  refine⟨zqM s r++o, ?_, ?_⟩
  ·rw[zeF,o1,List.append_assoc]
  ·rw[zeF,a1,o2,a2,List.append_assoc]
def Live (s:St) (L:Int):Prop:=∀x∈s.sess,s.time - x.renewed<L
theorem zlQ (t:Int):∀(l:List Lk) (g:Int),zbw [] t l g=(l,g)
 |[],_=>rfl
 |k::r,g=>by rw[zbw,if_neg (by simp[hasI]),zlQ t r g]
theorem zh3 (k:Lk):zam [] k=k:=by
 unfold zam zaY
 rw[List.filter_eq_self.2 (by simp[hasI])]
theorem zmD (s:St):za7 s []=s:=by
 unfold za7 zcb
 have h:s.locks.map (zam [])=s.locks:=by
  rw[List.map_congr_left (g:=id) fun k _=>zh3 k,List.map_id]
 rw[h,zlQ,List.filter_eq_self.2 (by simp[hasI])]
 simp
theorem zj3 {s:St} {time lease:Int} (ht:time≤s.time) (hl:Live s (max lease 1)):zaU s time lease=s:=by
 have h1:zbL s time=s.time:=by
  rcases zdX s time with h|⟨h,h2,_⟩
  ·exact h
  ·omega
 have h2:zgP s.sess s.time (max lease 1)=[]:=by
  unfold zgP
  split
  ·rfl
  ·rw[List.filter_eq_nil_iff.2 fun x hx=>by have:=hl x hx;simp;omega]
   rfl
 unfold zaU
 rw[h1,h2,zmD]
theorem zlR {s:St} (hr:RightS s) (time:Int) {lease:Int} (hl:lease≤zaL):Live (zaU s time lease) (max lease 1):=by
 have hH:zaL=2305843009213693952:=rfl
 have ht:=hr.time
 have hr:0≤zbL s time∧zbL s time≤zaL:=by rcases zdX s time with h|⟨h,h2,h3⟩<;>omega
 intro x hx
 have hx:x∈s.sess.filter fun x=> !hasI (zgP s.sess (zbL s time) (max lease 1)) x.client:=hx
 show zbL s time - x.renewed<max lease 1
 obtain⟨h1,h2⟩:=List.mem_filter.1 hx
 rcases Int.lt_or_le (zbL s time - x.renewed) (max lease 1)with h|h
 ·exact h
 ·exfalso
  have hd:hasI (zgP s.sess (zbL s time) (max lease 1)) x.client=true:=by
   unfold zgP
   rw[if_neg (by simp;omega)]
   unfold hasI
   rw[List.any_eq_true]
   exact⟨x.client,List.mem_map.2 ⟨x,List.mem_filter.2 ⟨h1,by simpa using h⟩,rfl⟩,by simp⟩
  rw[hd]at h2
  cases h2
theorem zqN {s:St} {L:Int} (hL:1≤L) (h:RightS s) {r:Req} (hm:Req.may r=true) (hN:s.num+1≤zaL) (hr:∀x∈s.sess,s.time - x.renewed<L):∀x∈(za1 s r).1.sess,s.time - x.renewed<L:=by
 obtain⟨hc,_⟩:=zf7 hm
 unfold za1
 split
 ·unfold zbt
  cases hf:zaF s.sess r.client with
  |some x=>exact hr
  |none=>
   simp only
   rw[zja h hc hN hf]
   by_cases h5:s.sess.length≥5
   ·rw[if_pos h5,if_pos (by simp)];exact hr
   ·rw[if_neg h5,if_neg (by simp)]
    intro x hx
    simp only at hx
    rcases List.mem_append.1 hx with hx|hx
    ·exact hr x (List.mem_of_mem_take hx)
    ·rcases List.mem_cons.1 hx with rfl|hx
     ·simp only;omega
     ·exact hr x (List.mem_of_mem_drop hx)
 ·cases hf:zaF s.sess r.client with
  |none=>exact hr
  |some x=>
   simp only
   split
   ·exact hr
   ·have hx:=hr x (List.mem_of_find?_eq_some hf)
    have h1:∀y∈(zbi s.sess r.client s.time).1,s.time - y.renewed<L:=by
     rw[zdE h hf]
     intro y hy
     rcases List.mem_or_eq_of_mem_set hy with hy|hy
     ·exact hr y hy
     ·rw[hy];simp only;omega
    split
    ·split
     ·exact h1
     ·split<;>exact h1
    ·split
     ·split<;>exact h1
     ·split
      ·intro y hy
       exact h1 y (List.mem_filter.1 hy).1
      ·exact h1
theorem zoB {s:St} {L:Int} (hL:1≤L) (h:RightS s) {r:Req} (hN:s.num+1≤zaL) (hT:s.token+4≤zaL) (hr:Live s L):Live (zaD s r).1 L:=by
 have ht:=(zbs h r hN hT).time
 unfold Live
 rw[ht]
 unfold zaD
 split
 ·exact hr
 ·rename_i hm
  split
  ·exact hr
  ·split
   ·exact hr
   ·exact zqN hL h (by simpa using hm) hN hr
theorem znI {L:Int} (hL:1≤L):∀{rs:List Req} {s:St} {l:List Memo},RightS s→s.num+rs.length≤zaL→s.token+4*rs.length≤zaL→Live s L→Live (zdz s rs l).1 L
 |[],_,_,_,_,_,h=>h
 |r::rs,s,l,h,h1,h2,hl=>by
  rw[List.length_cons]at h1 h2
  obtain⟨d1,d2,d3,d4,d5⟩:=zbs h r (by omega) (by omega)
  rw[zeF]
  exact znI hL d1 (by omega) (by omega) (zoB hL h (by omega) (by omega) hl)
theorem zqO {x:XS} {b:Batch} (h:RightS x.st) (hN:x.st.num+3≤zaL) (hT:x.st.token+16≤zaL) (hle:x.lease≤zaL) (hl:b.reqs.length≤3) (hm:∀r∈b.reqs,Req.may r=true) (hp:b.reqs.Pairwise fun a b=>a.client≠b.client) (hbt:b.time≤zaL)
  {y:XS} (hy:y.st=(zdB x b).1) (hyl:y.lease=x.lease) {c:Batch} (hc:c.reqs=b.reqs) (hct:c.time=b.time):zdB y c=zdB x b:=by
 obtain⟨r1,r2,r3,r4,r5⟩:=zbo h b.time x.lease (by omega)
 have ht:(zdB x b).1.time=zbL x.st b.time:=(zei h hN hT hl).2.2.2.1
 have hlv:Live (zdB x b).1 (max x.lease 1):=znI (by omega) r1 (by omega) (by omega) (zlR h b.time hle)
 have hst:zaU y.st c.time y.lease=y.st:=by
  rw[hyl,hct,hy]
  refine zj3 ?_ hlv
  rw[ht]
  rcases zdX x.st b.time with e|⟨e,_⟩
  ·unfold zbL at e⊢
   split
   ·exact Int.le_refl _
   ·rename_i hcc;simp at hcc;omega
  ·omega
 obtain⟨o,o1,o2⟩:=zlP (rs:=b.reqs) (s:=zaU x.st b.time x.lease) (t:=y.st) (l:=[]) r1 (by omega) (by omega) hm hp (fun r _=>by rw[hy];rfl) []
 unfold zdB
 rw[hst,hc,o2]
 rw[List.nil_append]at o1 o2⊢
 rw[o1,hy]
 rfl
abbrev xO (s:Nat) (x:XS):Nat×RS:=(s,{next:=2,l:=[some {e:=1,var:=true,fz:=false,sz:=0,cells:=[di x.lease,di x.done,di x.view,di x.slot,di x.st.time,di x.st.num,di x.st.token, .d (.sl x.st.sess.length (zaE x.st.sess)), .d (.sl x.st.locks.length (zaf x.st.locks)), .d (.sl x.st.memos.length (zav x.st.memos))]},none,none,none,none,none,none,none,none,none,none]})
theorem zvI:zbE 0:=⟨by decide,by decide⟩
theorem zh2 (l:List Memo):zdl zj4 l l=true:=zdV (fun a=>by simp[zj4,zlS]) l
structure XCan (x:XS):Prop where
 rt:RightS x.st
 sm:Small x.st
 nm:x.st.num+3≤zaL
 tk:x.st.token+16≤zaL
 dn:0≤x.done∧x.done<2^60
 vw:0≤x.view∧x.view≤zaL
 sl:0≤x.slot∧x.slot<2^60
theorem zqL {x:XS} {i:Nat} (h:XMk x i) (hi:i≤100):XCan x:=by
 have hH:zaL=2305843009213693952:=rfl
 obtain⟨m1,m2,m3,m4,m5,m6,m7,m8,m9⟩:=h
 exact⟨m1,zaN m1,by omega,by omega,by omega,by omega,by omega⟩
def zqK (l:List Memo):Prop:=∀m∈l,m.reply.held.length<2^30
theorem zj1:∀{rs:List Req} {s:St} {l:List Memo},RightS s→s.num+rs.length≤zaL→s.token+4*rs.length≤zaL→zqK l→zqK (zdz s rs l).2
 |[],_,_,_,_,_,h=>h
 |r::rs,s,l,h,h1,h2,hl=>by
  rw[List.length_cons]at h1 h2
  obtain⟨d1,d2,d3,d4,d5⟩:=zbs h r (by omega) (by omega)
  rw[zeF]
  refine zj1 d1 (by omega) (by omega) fun m hm=> ?_
  rcases List.mem_append.1 hm with hm|hm
  ·exact hl m hm
  ·unfold zqM at hm
   split at hm
   ·cases hm
   ·simp only[List.mem_singleton]at hm
    subst hm
    exact zoz h (zaN h) (by omega) (by omega)
theorem zsj {x:XS} (hr:RightS x.st) (hN:x.st.num+3≤zaL) (hT:x.st.token+16≤zaL) (b:Batch):RightS (doP x b).1.st∧(doP x b).2.1.length≤3∧zqK (doP x b).2.1∧((doP x b).1.done=x.done∨(doP x b).1.done=x.done+1)∧
  (((doP x b).1.view=x.view∧(doP x b).1.slot=x.slot)∨(0≤(doP x b).1.view∧(doP x b).1.view≤zaL∧(doP x b).1.slot=x.done+1)):=by
 unfold doP
 split
 ·exact⟨hr,by simp,fun m hm=>(by cases hm), .inl rfl, .inl ⟨rfl,rfl⟩⟩
 ·rename_i hm
  split
  ·exact⟨hr,by simp,fun m hm=>(by cases hm), .inr rfl, .inl ⟨rfl,rfl⟩⟩
  ·rename_i hv
   have hm:Batch.may b=true:=by simpa using hm
   have hv:zdq x b=true:=by simpa using hv
   obtain⟨g1,g2,g3,g4,g5,g6,g7⟩:=zdY hm (zc4 hv).1
   obtain⟨e1,e2,e3,e4,e5⟩:=zei hr hN hT g5
   obtain⟨r1,r2,r3,r4,r5⟩:=zbo hr b.time x.lease (by omega)
   exact⟨e1,Nat.le_trans e5 g5,zj1 r1 (by omega) (by omega) (fun m hm=>by cases hm), .inr rfl, .inr ⟨g1.1,g1.2,rfl⟩⟩
structure XR (x:XS) (i:Nat):Prop where
 rt:RightS x.st
 nm:x.st.num+1000≤zaL
 tk:x.st.token+1000≤zaL
 dn:0≤x.done∧x.done≤i
 vw:0≤x.view∧x.view≤zaL
 sl:0≤x.slot∧x.slot≤i
set_option maxHeartbeats 8000000 in
theorem zmH (rows:List Row) (hl:rows.length<2^60) (hrw:∀r∈rows,rowOk r) (r:Row) (hr:rowOk r):
  CallOK Tryz.prog 3 [.f (al rows.length (zkb rows)), .f (.agg (r.enc.map C.d))] (fun r o=>r=[rb true]∧o=[]):=by
 refine zac zar mixed (T:=Ty) (n:=157) Tryz.func3 (c:=Tryz.f3.body.getD .skip) rfl Tryz.results3 Tryz.ntmps3 Tryz.call3 ?_
 simp only[Tryz.f3,Option.getD]
 have haw:=zgt
 have n1:=zj5 60 rfl
 have n2:=zqS 60 rfl
 repeat'(first|(with_reducible first|refine zab _ _ ?_|refine zaV ?_|refine zaW ?_)|rw[zaj]|simp only[zY,Int.reduceEq,Int.reduceBEq,Int.reduceBNe,Nat.reduceSub,Nat.reduceEqDiff,Nat.reduceAdd,Nat.reduceMul,Nat.reduceLeDiff,Nat.reduceLT,Nat.reduceBEq,reduceCtorEq]|((first|((try refine zax ?_);apply zaA)|(apply zaB;intro _));(solve|exact(haw)|(refine CallOK.le (haw) ?_;exact zM)|fail);try case hn=>rfl)|refine zb0 (n1) ?_|(refine zb0 (CallP.le (n1) ?_) ?_;focus(simp[zbZ,aLe,zjt,cLe]<;>fail))|refine zb0 (n2) ?_|(refine zb0 (CallP.le (n2) ?_) ?_;focus(simp[zbZ,aLe,zjt,cLe]<;>fail))|refine zal ?_|refine zaa (fun hb=> ?_) (fun hb=> ?_)|(refine And.intro ?_ ?_;exact zI)|refine And.intro (fun hg=> ?_) (fun hg=> ?_)|exact zC|fail)
 refine zao (τ:=Nat×XS) (fun t=>⟨[al rows.length (zkb rows),dd,dd, .one (.ptr ⟨3,0,1⟩ 0),dd, .one (.ptr ⟨22,0,1⟩ 0), .one (.ptr ⟨23,0,1⟩ 0),ai t.1,dd,dd,dd,dd,dd,dd,dd,dd,dd,dd,dd,dd,dd,dd,dd,dd,dd,dd,dd,dd,dd,dd,dd,dd,dd,dd,dd,dd,dd,dd,dd,dd,dd,dd,dd,dd,dd,dd,dd,dd,dd,dd,dd,dd,dd,dd,dd,dd,dd,dd,dd,dd,dd,dd,dd,dd,dd,dd,dd,dd,dd,dd,dd,dd,dd,dd,dd,dd,dd,dd,dd,dd,dd,dd,dd,dd,dd,dd,dd,dd,dd,dd,dd,dd,dd,dd,dd,dd,dd,dd,dd,dd,dd,dd,dd,dd,dd,dd,dd,dd,dd,dd,dd,dd,dd,dd,dd,dd,dd,dd,dd,dd,dd,dd,dd,dd,dd,dd,dd,dd,dd,dd,dd,dd,dd,dd,dd,dd,dd,dd,dd,dd,dd,dd,dd,dd,dd,dd,dd,dd,dd,dd,dd,dd,dd,dd,dd,dd,dd],[(3,{next:=2,l:=[some {e:=1,var:=true,fz:=false,sz:=0,cells:=[.d (uD r.time), .d (uD r.view), .d (uD r.kind), .d (.sl r.acts.length (zf6 r.acts))]},none,none,none,none]}),xO 22 t.2,xO 23 t.2,(8,⟨2,[]⟩),(41,⟨2,[]⟩),(44,⟨2,[]⟩),(47,⟨2,[]⟩)]⟩)
  (fun t=>t.1≤rows.length∧t.1≤20∧XMk t.2 t.1) (fun _=>()) (fun t=>rows.length - t.1) (0,znL 60)
  (Gh.canon [3,22,23] [8,41,44,47] [] zK rfl rfl) ⟨Nat.zero_le _,by simp,zuw⟩ ?_
 intro⟨i,x⟩ ⟨j1,j2,j3⟩ _ K hK
 simp only at j1 j2 j3 hK⊢
 have hc:=zqL j3 (by omega)
 by_cases hlt:i<rows.length∧i<20
 ·obtain⟨hi,h20⟩:=hlt
  have hb1:decide ((i:Int)<rows.length)=true:=by simp;omega
  have hb2:decide ((i:Int)<20)=true:=by simp;omega
  have hat:=zoL hi
  have hw:=zan hi (by omega)
  have hro:=hrw _ (List.getElem_mem hi)
  have hmk:=zuv j3 (by omega) hro
  obtain⟨f1,f2,f3,f4⟩:=zdp j3 (by omega) hro
  have hbl:=zh6 x hc.sm hc.rt hc.vw hc.sl rows[i] hro
  generalize rows[i]=q at*
  generalize zbD x q=b at*
  have d1:=zh5 x b f2 hc.rt hc.nm hc.tk hc.dn
  have d2:=zs9 x b f2 hc.rt hc.nm hc.tk hc.dn
  generalize doP x b=y at*
  repeat'(first|refine zq (I hb1 (I hb2 (I hat (I @zch zca)))) ?_|exact zd (I hb1 (I hb2 (I hat (I @zch zca))))|refine zc (hbl) ?_|refine zg (hbl) ?_|(refine zaa ?_ ?_<;>intro hb)|(refine And.intro ?_ ?_;exact zI)|(refine And.intro ?_ ?_<;>intro hg)|exact zC|fail)
  refine zj (d2) ?_
  repeat'(first|refine zq0 ?_|exact zd0|(refine zaa ?_ ?_<;>intro hb)|(refine And.intro ?_ ?_;exact zI)|(refine And.intro ?_ ?_<;>intro hg)|exact zC|fail)
  refine zj (d1) ?_
  repeat'(first|refine zq0 ?_|exact zd0|(refine zaa ?_ ?_<;>intro hb)|(refine And.intro ?_ ?_;exact zI)|(refine And.intro ?_ ?_<;>intro hg)|exact zC|fail)
  refine hK _ (i+1,y.1) (Gh.canon [3,22,23] [] [] (zk hw) rfl rfl) ⟨hi,h20,hmk⟩ trivial (by simp only;omega)
 ·have hcond:(decide ((i:Int)<rows.length)&&decide ((i:Int)<20))=false:=by
   rw[Bool.and_eq_false_iff]
   rcases Nat.lt_or_ge i rows.length with h|h
   ·right;simp;omega
   ·left;simp;omega
  have hH:zaL=2305843009213693952:=rfl
  obtain⟨q1,q2,q3,q4,q5⟩:=hr
  have hr0:rowOk ⟨r.time,r.view,0,r.acts⟩:=⟨q1,q2,zvI,q4,q5⟩
  have hbl:=zh6 x hc.sm hc.rt hc.vw hc.sl ⟨r.time,r.view,0,r.acts⟩ hr0
  obtain⟨f1,f2,f3,f4⟩:=zdp j3 (by omega) hr0
  have g0:(zbD x ⟨r.time,r.view,0,r.acts⟩).fill=false:=rfl
  have gv:zdq x (zbD x ⟨r.time,r.view,0,r.acts⟩)=true:=by unfold zdq zbD;simp
  have f4:=f4 g0
  generalize zbD x ⟨r.time,r.view,0,r.acts⟩=b at*
  obtain⟨g1,g2,g3,g4,g5,g6,g7⟩:=zdY f1 g0
  obtain⟨_,e1,e2⟩:=zc4 gv
  obtain⟨m1,m2,m3,m4,m5,m6,m7,m8,m9⟩:=j3
  obtain⟨k1,k2,k3,k4,k5,k6⟩:=f2
  have hdo:doP x b=(⟨x.lease,x.done+1,b.view,x.done+1,(zdB x b).1⟩,(zdB x b).2,true):=by
   unfold doP
   rw[if_neg (by rw[f1];simp),if_neg (by rw[gv];simp)]
  have d1:=zh5 x b ⟨k1,k2,k3,k4,k5,k6⟩ hc.rt hc.nm hc.tk hc.dn
  rw[hdo]at d1
  obtain⟨r1,r2,r3,r4,r5⟩:=zei (x:=x) (b:=b) hc.rt hc.nm hc.tk g5
  obtain⟨y,hy⟩:∃y:XS,y=⟨x.lease,x.done+1,b.view,x.done+1,(zdB x b).1⟩:=⟨_,rfl⟩
  obtain⟨c,hcc⟩:∃c:Batch,c={b with tip:=⟨b.view,x.done+1⟩}:=⟨_,rfl⟩
  have hd:=hc.dn
  have hcm:Batch.may c=true:=by rw[hcc];exact zgu g0 g1 g2 (by simp only;omega) (by simp only;omega) g5 g6 g7
  have hcv:zdq y c=true:=by rw[hcc,hy];unfold zdq;simp[g0]
  have hag:zdB y c=zdB x b:=zqO hc.rt hc.nm hc.tk (by rw[m9];omega) g5 g6 g7 g2.2 (by rw[hy]) (by rw[hy]) (by rw[hcc]) (by rw[hcc])
  have hdo2:doP y c=(⟨x.lease,x.done+1+1,b.view,x.done+1+1,(zdB x b).1⟩,(zdB x b).2,true):=by
   unfold doP
   rw[if_neg (by rw[hcm];simp),if_neg (by rw[hcv];simp),hag,hcc,hy]
  have hyr:RightS y.st:=by rw[hy];exact r1
  have d2:=zh5 y c (by rw[hcc];exact⟨k1,by unfold i64;simp only;omega,by unfold i64;simp only;omega,k4,k5,k6⟩) hyr (by rw[hy];simp only;omega) (by rw[hy];simp only;omega) (by rw[hy];simp only;omega)
  rw[hdo2,hcc,hy]at d2
  have hsm1:=zaN r1
  have s0:=zf1 x hc.sm
  have hadv:=ziq x.st hc.sm hc.rt b.time 60
  obtain⟨a1,a2,a3,a4,a5⟩:=zbo hc.rt b.time 60 (by omega)
  have hran:zdB x b=zdz (zaU x.st b.time 60) b.reqs []:=by unfold zdB;rw[m9]
  have hhl:=zj1 a1 (rs:=b.reqs) (l:=[]) (by omega) (by omega) (fun m hm=>by cases hm)
  rw[←hran]at hhl
  have s1:=zf1 ⟨x.lease,x.done+1,b.view,x.done+1,(zdB x b).1⟩ hsm1
  have s2:=zqU ⟨x.lease,x.done+1,b.view,x.done+1,(zdB x b).1⟩
  have s3:=zf1 ⟨x.lease,x.done+1+1,b.view,x.done+1+1,(zdB x b).1⟩ hsm1
  have sa:=zi7 (zdB x b).2 (zdB x b).2 (by omega) (by omega) hhl hhl
  rw[zh2]at sa
  have hsa:=znK (zdB x b).1 (zdB x b).1 hsm1 hsm1
  rw[znJ]at hsa
  generalize zdB x b=R at*
  generalize zaU x.st b.time 60=z0 at*
  repeat'(first|refine zq hcond ?_|exact zd hcond|refine zc (hbl) ?_|refine zg (hbl) ?_|refine zc (s0) ?_|refine zg (s0) ?_|refine zc (hadv) ?_|refine zg (hadv) ?_|(refine zaa ?_ ?_<;>intro hb)|(refine And.intro ?_ ?_;exact zI)|(refine And.intro ?_ ?_<;>intro hg)|exact zC|fail)
  refine zao (τ:=Nat×St×List Memo) (fun t=>⟨[dd,dd,dd,dd,dd, .one (.ptr ⟨22,0,1⟩ 0),dd,dd,dd, .one (.ptr ⟨9,0,1⟩ 0), .one (.ptr ⟨10,0,1⟩ 0), .one (.own ⟨11,1,1⟩ 0 t.2.2.length),ai t.1,dd,dd,dd,dd,dd,dd,dd,dd,dd,dd,dd,dd,dd,dd,dd,dd,dd,dd,dd,dd,dd,dd,dd,dd,dd,dd,dd,dd,dd,dd,dd,dd,dd,dd,dd,dd,dd,dd,dd,dd,dd,dd,dd,dd,dd,dd,dd,dd,dd,dd,dd,dd,dd,dd,dd,dd,dd,dd,dd,dd,dd,dd,dd,dd,dd,dd,dd,dd,dd,dd,dd,dd,dd,dd,dd,dd,dd,dd,dd,dd,dd,dd,dd,dd,dd,dd,dd,dd,dd,dd,dd,dd,dd,dd,dd,dd,dd,dd,dd,dd,dd,dd,dd,dd,dd,dd,dd,dd,dd,dd,dd,dd,dd,dd,dd,dd,dd,dd,dd,dd,dd,dd,dd,dd,dd,dd,dd,dd,dd,dd,dd,dd,dd,dd,dd,dd,dd,dd,dd,dd,dd,dd,dd,dd],[(3,⟨2,[]⟩),xO 22 x,(23,⟨2,[]⟩),(8,⟨2,[]⟩),(41,⟨2,[]⟩),(44,⟨2,[]⟩),(47,⟨2,[]⟩),(9,{next:=2,l:=[some {e:=1,var:=true,fz:=false,sz:=0,cells:=[db b.fill,di b.view,di b.tip.view,di b.tip.slot,di b.time, .d (.sl b.reqs.length (zbF b.reqs))]},none,none,none,none,none,none]}),(10,{next:=2,l:=[some {e:=1,var:=true,fz:=false,sz:=0,cells:=[di t.2.1.time,di t.2.1.num,di t.2.1.token, .d (.sl t.2.1.sess.length (zaE t.2.1.sess)), .d (.sl t.2.1.locks.length (zaf t.2.1.locks)), .d (.sl t.2.1.memos.length (zav t.2.1.memos))]},none,none,none,none,none,none]}),(11,{next:=2,l:=[none,some {e:=1,var:=false,fz:=false,sz:=6,cells:=(zav t.2.2).map C.d}]}),(14,⟨2,[]⟩),(15,⟨2,[]⟩),(87,⟨2,[]⟩),(109,⟨2,[]⟩),(110,⟨2,[]⟩)]⟩)
   (fun t=>t.1≤b.reqs.length∧RightS t.2.1∧t.2.1.num≤x.st.num+t.1∧t.2.1.token≤x.st.token+4+4*t.1∧t.2.2.length≤t.1) (fun t=>zdz t.2.1 (b.reqs.drop t.1) t.2.2) (fun t=>b.reqs.length - t.1) (0,z0,[])
   ((Gh.nil (i:=11) (s:=11) (sz:=6) rfl).trans (Gh.canon [22,9,10,11] [14,15,87,109,110] [] zK rfl rfl)) ⟨Nat.zero_le _,a1,by simp only;omega,by simp only;omega,Nat.le_refl _⟩ ?_
  clear hK hcond
  intro⟨i,s,l⟩ ⟨p1,p2,p3,p4,p5⟩ hF K hK
  simp only[List.drop_zero]at p1 p2 p3 p4 p5 hF hK⊢
  rw[←hran]at hF
  refine zw ?_
  refine zaa (fun hlt=> ?_) (fun hge=> ?_)
  ·have hi:i<b.reqs.length:=by simpa using hlt
   have hF0:=hF
   rw[zh4 hi]at hF
   have hat:=zd5 hi
   have hat1:(zbF b.reqs).drop (i*5+1)=iD b.reqs[i].seq::(iD b.reqs[i].kind::iD b.reqs[i].session::sD b.reqs[i].name::zbF (b.reqs.drop (i+1))):=by rw[←List.drop_drop,hat];rfl
   have hw:=zan hi (by omega)
   have hro:=k6 _ (List.getElem_mem hi)
   generalize b.reqs[i]=q at*
   have hsm:=zaN p2
   have hfr:=zfW s.memos (by have:=hsm.memos;omega) q.client q.seq
   have hap:=zmJ s hsm p2 q hro (fun hm=>zdD p2 hm (by omega) (by omega))
   obtain⟨d1,d2,d3,d4,d5⟩:=zbs p2 q (by omega) (by omega)
   generalize (zaD s q).1=s1 at*
   generalize (zaD s q).2.1=rep at*
   generalize (zaD s q).2.2=okb at*
   cases f:decide (zaT s.memos q.client q.seq<0)
   ·have f':¬zaT s.memos q.client q.seq= -1:=by simp at f;omega
    rw[if_neg f']at hF
    have hle:((l.length+1)*64≤2^47)=True:=eq_true (by omega)
    repeat'(first|refine zq (I hat (I hat1 (I @zaZ (I f (I hle (I @zb3 (I @zaJ zca))))))) ?_|exact zd (I hat (I hat1 (I @zaZ (I f (I hle (I @zb3 (I @zaJ zca)))))))|refine zc (hfr) ?_|refine zg (hfr) ?_|refine zc (hap) ?_|refine zg (hap) ?_|(refine zaa ?_ ?_<;>intro hb)|(refine And.intro ?_ ?_;exact zI)|(refine And.intro ?_ ?_<;>intro hg)|exact zC|fail)
    refine hK _ (i+1,s1,l++[⟨q.client,q.seq,rep⟩]) (Gh.canon [22,9,10,11] [] [] (zk (I hw (I @List.length_append.{0} @List.length_singleton.{0}))) rfl (by simp only[List.length_append,List.length_singleton];rw[memosE_snoc];rfl)) ⟨hi,d1,by simp only;omega,by simp only;omega,by simp only[List.length_append,List.length_singleton];omega⟩ (hF.trans hF0.symm) (by simp only;omega)
   ·have f':zaT s.memos q.client q.seq= -1:=by rcases zdT s.memos q.client q.seq with e|e|e<;>simp[e]at f⊢
    rw[if_pos f']at hF
    repeat'(first|refine zq (I hat (I hat1 (I @zaZ (I f zca)))) ?_|exact zd (I hat (I hat1 (I @zaZ (I f zca))))|refine zc (hfr) ?_|refine zg (hfr) ?_|refine zc (hap) ?_|refine zg (hap) ?_|(refine zaa ?_ ?_<;>intro hb)|(refine And.intro ?_ ?_;exact zI)|(refine And.intro ?_ ?_<;>intro hg)|exact zC|fail)
    refine hK _ (i+1,s1,l) (Gh.canon [22,9,10,11] [] [] (zk hw) rfl rfl) ⟨hi,d1,by simp only;omega,by simp only;omega,by simp only;omega⟩ (hF.trans hF0.symm) (by simp only;omega)
  ·have hi:i=b.reqs.length:=by
    have:¬(i:Int)<b.reqs.length:=by simpa using hge
    omega
   rw[hi,List.drop_length,zdz]at hF
   subst hF
   simp only at d1 d2 s1 s2 s3 sa hsa
   repeat'(first|refine zq @zaJ ?_|exact zd @zaJ|(refine zaa ?_ ?_<;>intro hb)|(refine And.intro ?_ ?_;exact zI)|(refine And.intro ?_ ?_<;>intro hg)|exact zC|fail)
   refine zj (d1) ?_
   repeat'(first|refine zq @zaJ ?_|exact zd @zaJ|refine zc (sa) ?_|refine zg (sa) ?_|refine zc (s1) ?_|refine zg (s1) ?_|refine zc (s2) ?_|refine zg (s2) ?_|refine zc (hsa) ?_|refine zg (hsa) ?_|(refine zaa ?_ ?_<;>intro hb)|(refine And.intro ?_ ?_;exact zI)|(refine And.intro ?_ ?_<;>intro hg)|exact zC|fail)
   refine zj (d2) ?_
   repeat'(first|refine zq @zaJ ?_|exact zd @zaJ|refine zc (sa) ?_|refine zg (sa) ?_|refine zc (s3) ?_|refine zg (s3) ?_|refine zc (hsa) ?_|refine zg (hsa) ?_|refine zc (haw) ?_|refine zg (haw) ?_|(refine zaa ?_ ?_<;>intro hb)|(refine And.intro ?_ ?_;exact zI)|(refine And.intro ?_ ?_<;>intro hg)|exact zC|fail)
abbrev zxJ (l:List Int):List D:=l.map uD
def zs8 (v:Int) (k:Nat):Int:=IntKind.u8.wrap (v.fdiv (2^(8*(7 - k))))
def zx6 (v:Int):List Int:=(List.range 8).map (zs8 v)
abbrev zx7 (v:Int) (i:Nat):List D:=(List.range 8).map fun k=>uD (if k<i then zs8 v k else 0)
abbrev zvE (s:ByteArray):List D:=s.data.toList.map fun b=>uD b.toNat
def zxV (s:ByteArray):List D:=uD s.size::zvE s
def zx8 (ls:List (List D)) (i:Nat):List D:=if i=0 then zdk [.int .u8 0] ls.flatten.length else(ls.take i).flatten
abbrev zx9 (ls:List (List D)):List D:=ls.map fun l=> .sl l.length l
theorem zvD {n:Int} (h:(Lit.int .u8 n).wf=true):zbE n:=by
 have h2:(decide (IntKind.u8.min≤n)&&decide (n≤IntKind.u8.max))=true:=h
 have e1:IntKind.u8.min=0:=by decide
 have e2:IntKind.u8.max=255:=by decide
 rw[e1,e2]at h2
 simp only[Bool.and_eq_true,decide_eq_true_eq]at h2
 unfold zbE
 omega
theorem zmz {α:Type} {enc:α→List D} {ok:α→Prop} {s:Sh} (h:∀ds,ShD s ds→∃x,ds=enc x∧ok x):∀xs:List (List D),(∀x∈xs,ShD s x)→∃l:List α,l.length=xs.length∧xs.flatten=l.flatMap enc∧∀x∈l,ok x
 |[],_=>⟨[],rfl,rfl,fun x hx=>by cases hx⟩
 |x::xs,hx=>by
  obtain⟨a,ha1,ha2⟩:=h x (hx x (by simp))
  obtain⟨l,h1,h2,h3⟩:=zmz h xs fun y hy=>hx y (by simp[hy])
  refine⟨a::l,by simp[h1], ?_,fun y hy=> ?_⟩
  ·rw[List.flatten_cons,List.flatMap_cons,h2,ha1]
  ·rcases List.mem_cons.1 hy with rfl|hy
   ·exact ha2
   ·exact h3 y hy
theorem zqH:reachBytes<2^60:=by decide
theorem byte_of (ds:List D) (h:ShD (.int .u8) ds):∃x:Int,ds=[uD x]∧zbE x:=by
 simp only[ShD]at h
 obtain⟨n,rfl,hn⟩:=h
 exact⟨n,rfl,zvD hn⟩
abbrev zoA:Sh:= .struct [.int .u8, .int .u8, .int .u8, .int .u8, .int .u8, .int .u8]
theorem zvg (ds:List D) (h:ShD zoA ds):∃a:Act,ds=a.enc∧zha a:=by
 rw[ShD]at h
 simp only[ShDs]at h
 obtain⟨_,_,rfl,h1,_,_,rfl,h2,_,_,rfl,h3,_,_,rfl,h4,_,_,rfl,h5,_,_,rfl,h6,rfl⟩:=h
 obtain⟨a,rfl,ha⟩:=byte_of _ h1
 obtain⟨b,rfl,hb⟩:=byte_of _ h2
 obtain⟨c,rfl,hc⟩:=byte_of _ h3
 obtain⟨d,rfl,hd⟩:=byte_of _ h4
 obtain⟨e,rfl,he⟩:=byte_of _ h5
 obtain⟨f,rfl,hf⟩:=byte_of _ h6
 exact⟨⟨a,b,c,d,e,f⟩,rfl,ha,hb,hc,hd,he,hf⟩
theorem zqI (ds:List D) (h:ShD (.slice 6 zoA) ds):∃l:List Act,ds=[.sl l.length (zf6 l)]∧l.length<2^60∧∀x∈l,zha x:=by
 rw[ShD]at h
 obtain⟨xs,rfl,hx1,hx2⟩:=h
 obtain⟨l,l1,l2,l3⟩:=zmz zvg xs hx2
 have:=zqH
 exact⟨l,by rw[←l1,l2],by omega,l3⟩
def zxU (n:Int):Prop:=0≤n∧n<65536
abbrev wD (n:Int):D:= .v (.int .u16 n)
abbrev aw (n:Int):AV:= .one (.d (wD n))
end Go.Proofs.YtngleemijkaeoaaGreat
