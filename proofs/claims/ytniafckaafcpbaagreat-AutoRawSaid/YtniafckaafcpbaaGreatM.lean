import Derived.Test.YtniafckaafcpbaaGreatH
import Derived.Test.YtniafckaafcpbaaGreatK8
namespace Go.Proofs.YtniafckaafcpbaaGreat
open Go.Pk
set_option maxRecDepth 100000
set_option linter.unusedSimpArgs false
set_option linter.unusedVariables false
theorem zhI {a b:Int}:(cmpI a b==0)=(a==b):=by
 unfold cmpI
 split
 ·rw[Bool.eq_iff_iff];simp;omega
 ·split
  ·rw[Bool.eq_iff_iff];simp;omega
  ·rw[Bool.eq_iff_iff];simp;omega
theorem zgy {a b:Int}:cmpI a b<0↔a<b:=by
 unfold cmpI
 split
 ·simp;omega
 ·split<;>simp<;>omega
theorem zgz {α:Type} {o:Option α} {p:α→Bool}:(o.filter p).isSome=(o.map p).getD false:=by
 cases o with
 |none=>rfl
 |some x=>simp only[Option.filter,Option.map_some,Option.getD_some];cases p x<;>rfl
theorem znY (x:Sess) (n:Int):CallOK Tryz.prog 126 [.f (sessAV x), .f (.one (.elt [iD n]))] (fun r o=>r=[rb (x.num==n)]∧o=[]):=by
 refine zak zaA mixed (T:=Ty) (n:=8) Tryz.func126 (c:=Tryz.f126.body.getD .skip) rfl Tryz.results126 Tryz.ntmps126 Tryz.call126 ?_
 simp only[Tryz.f126,Option.getD]
 repeat'(first|(with_reducible first|refine zaa _ _ ?_|refine zae ?_|refine zaf ?_)|rw[zad]|simp only[zY,Int.reduceEq,Int.reduceBEq,Int.reduceBNe,Nat.reduceSub,Nat.reduceEqDiff,Nat.reduceAdd,Nat.reduceMul,Nat.reduceLeDiff,Nat.reduceLT,Nat.reduceBEq,reduceCtorEq]|refine zab ?_|refine zac (fun hb=> ?_) (fun hb=> ?_)|(refine And.intro ?_ ?_;exact zI)|refine And.intro (fun hg=> ?_) (fun hg=> ?_)|exact zC|fail)
theorem zfb (l:List Sess) (hl:l.length<2^62) (n:Int):CallOK Tryz.prog 91 [.f (al l.length (sessE l)), .f (ai n)] (fun r o=>r=[rb (numbered l n)]∧o=[]):=by
 refine zak zaA mixed (T:=Ty) (n:=8) Tryz.func91 (c:=Tryz.f91.body.getD .skip) rfl Tryz.results91 Tryz.ntmps91 Tryz.call91 ?_
 simp only[Tryz.f91,Option.getD]
 have h:=zf6 l hl (fun x=>x.num==n) 126 [.elt [iD n]] rfl rfl (fun x _=>znY x n)
 repeat'(first|(with_reducible first|refine zaa _ _ ?_|refine zae ?_|refine zaf ?_)|rw[zad]|simp only[zY,Int.reduceEq,Int.reduceBEq,Int.reduceBNe,Nat.reduceSub,Nat.reduceEqDiff,Nat.reduceAdd,Nat.reduceMul,Nat.reduceLeDiff,Nat.reduceLT,Nat.reduceBEq,reduceCtorEq]|((first|((try refine zai ?_);apply zaj)|(apply zah;intro _));(solve|exact(h)|(refine CallOK.le (h) ?_;exact zM)|fail);try case hn=>rfl)|refine zab ?_|refine zac (fun hb=> ?_) (fun hb=> ?_)|(refine And.intro ?_ ?_;exact zI)|refine And.intro (fun hg=> ?_) (fun hg=> ?_)|exact zC|fail)
 rfl
theorem zjQ (x:Sess) (c:Int):CallOK Tryz.prog 107 [.f (sessAV x), .f (ai c)] (fun r o=>r=[ri (cmpI x.client c)]∧o=[]):=by
 refine zak zaA mixed (T:=Ty) (n:=9) Tryz.func107 (c:=Tryz.f107.body.getD .skip) rfl Tryz.results107 Tryz.ntmps107 Tryz.call107 ?_
 simp only[Tryz.f107,Option.getD]
 repeat'(first|(with_reducible first|refine zaa _ _ ?_|refine zae ?_|refine zaf ?_)|rw[zad]|simp only[zY,Int.reduceEq,Int.reduceBEq,Int.reduceBNe,Nat.reduceSub,Nat.reduceEqDiff,Nat.reduceAdd,Nat.reduceMul,Nat.reduceLeDiff,Nat.reduceLT,Nat.reduceBEq,reduceCtorEq]|((first|((try refine zai ?_);apply zaj)|(apply zah;intro _));(solve|exact(zct x.client c)|(refine CallOK.le (zct x.client c) ?_;exact zM)|fail);try case hn=>rfl)|refine zab ?_|refine zac (fun hb=> ?_) (fun hb=> ?_)|(refine And.intro ?_ ?_;exact zI)|refine And.intro (fun hg=> ?_) (fun hg=> ?_)|exact zC|fail)
theorem zfc (l:List Sess) (hs:SS l) (hl:l.length<2^62) (c:Int):CallOK Tryz.prog 71 [.f (al l.length (sessE l)), .f (ai c)] (fun r o=>r=[ri (posS l c),rb (findS l c).isSome]∧o=[]):=by
 refine zak zaA mixed (T:=Ty) (n:=11) Tryz.func71 (c:=Tryz.f71.body.getD .skip) rfl Tryz.results71 Tryz.ntmps71 Tryz.call71 ?_
 simp only[Tryz.f71,Option.getD]
 have h:=zgU l hl c (fun x=>cmpI x.client c) 107 (posS l c) zbw
  (fun j hj h=>by have:=zd0 hj h;simp at this;exact zgy.2 this)
  (fun j hj h=>by have:=zd1 hj (zhY hs c) h;simp at this;have h2:= @zgy l[j].client c;omega) (fun x _=>zjQ x c)
 have e:((l[posS l c]?.map fun x=>cmpI x.client c==0).getD false)=(findS l c).isSome:=by
  rw[zeL hs,zgz]
  simp only[zhI]
 rw[e]at h
 repeat'(first|(with_reducible first|refine zaa _ _ ?_|refine zae ?_|refine zaf ?_)|rw[zad]|simp only[zY,Int.reduceEq,Int.reduceBEq,Int.reduceBNe,Nat.reduceSub,Nat.reduceEqDiff,Nat.reduceAdd,Nat.reduceMul,Nat.reduceLeDiff,Nat.reduceLT,Nat.reduceBEq,reduceCtorEq]|((first|((try refine zai ?_);apply zaj)|(apply zah;intro _));(solve|exact(h)|(refine CallOK.le (h) ?_;exact zM)|fail);try case hn=>rfl)|refine zab ?_|refine zac (fun hb=> ?_) (fun hb=> ?_)|(refine And.intro ?_ ?_;exact zI)|refine And.intro (fun hg=> ?_) (fun hg=> ?_)|exact zC|fail)
theorem rfs2 {a b a' b':RO}:rfsLe [.one a, .one b] [.one a', .one b']=(roLe a a'∧roLe b b'∧True):=rfl
def noSess:Sess:=⟨0,0,0⟩
theorem zey (l:List Sess) (hs:SS l) (hl:l.length<2^62) (c:Int):CallOK Tryz.prog 40 [.f (al l.length (sessE l)), .f (ai c)]
  (fun r o=>r=[.agg [.d (iD ((findS l c).getD noSess).client), .d (iD ((findS l c).getD noSess).num), .d (iD ((findS l c).getD noSess).renewed)],rb (findS l c).isSome]∧o=[]):=by
 refine zak zaA mixed (T:=Ty) (n:=20) Tryz.func40 (c:=Tryz.f40.body.getD .skip) rfl Tryz.results40 Tryz.ntmps40 Tryz.call40 ?_
 simp only[Tryz.f40,Option.getD]
 have h:=zfc l hs hl c
 cases hf:findS l c with
 |none=>
  rw[hf]at h
  simp only[Option.isSome_none]at h
  repeat'(first|(with_reducible first|refine zaa _ _ ?_|refine zae ?_|refine zaf ?_)|rw[zad]|simp only[zY,Int.reduceEq,Int.reduceBEq,Int.reduceBNe,Nat.reduceSub,Nat.reduceEqDiff,Nat.reduceAdd,Nat.reduceMul,Nat.reduceLeDiff,Nat.reduceLT,Nat.reduceBEq,reduceCtorEq]|((first|((try refine zai ?_);apply zaj)|(apply zah;intro _));(solve|exact(h)|(refine CallOK.le (h) ?_;exact zM)|fail);try case hn=>rfl)|refine zab ?_|refine zac (fun hb=> ?_) (fun hb=> ?_)|(refine And.intro ?_ ?_;exact zI)|refine And.intro (fun hg=> ?_) (fun hg=> ?_)|exact zC|fail)
  rfl
 |some x=>
  rw[hf]at h
  simp only[Option.isSome_some]at h
  rw[zeL hs]at hf
  have hg:l[posS l c]? =some x:=by
   cases hq:l[posS l c]? with
   |none=>rw[hq]at hf;simp at hf
   |some y=>rw[hq]at hf;simp only[Option.filter]at hf;split at hf<;>simp_all
  obtain⟨hi,he⟩:=List.getElem?_eq_some_iff.1 hg
  have hat:=zaV hi
  rw[he]at hat
  simp only[List.cons_append,List.nil_append]at hat
  repeat'(first|(with_reducible first|refine zaa _ _ ?_|refine zae ?_|refine zaf ?_)|rw[zad]|simp only[hat,zax,zY,Int.reduceEq,Int.reduceBEq,Int.reduceBNe,Nat.reduceSub,Nat.reduceEqDiff,Nat.reduceAdd,Nat.reduceMul,Nat.reduceLeDiff,Nat.reduceLT,Nat.reduceBEq,reduceCtorEq]|((first|((try refine zai ?_);apply zaj)|(apply zah;intro _));(solve|exact(h)|(refine CallOK.le (h) ?_;exact zM)|fail);try case hn=>rfl)|refine zab ?_|refine zac (fun hb=> ?_) (fun hb=> ?_)|(refine And.intro ?_ ?_;exact zI)|refine And.intro (fun hg=> ?_) (fun hg=> ?_)|exact zC|fail)
  rfl
theorem zoB (l:List Sess) (hl:l.length<2^30) (now lease:Int) (hr:∀s∈l,0≤s.renewed∧s.renewed≤High):CallOK Tryz.prog 34 [.f (al l.length (sessE l)), .f (ai now), .f (ai lease)]
  (fun r o=>r=[rowI (dueP l now lease)]∧o=[]):=by
 refine CallOK.nil ?_
 refine zak zaA mixed (T:=Ty) (n:=43) Tryz.func34 (c:=Tryz.f34.body.getD .skip) rfl Tryz.results34 Tryz.ntmps34 Tryz.call34 ?_
 simp only[Tryz.f34,Option.getD]
 cases hc:(decide (now<0)||decide (now>High)||decide (lease<0)||decide (lease>High))
 ·have hd:dueP l now lease=(l.filter fun s=>decide (now - s.renewed≥lease)).map Sess.client:=by rw[dueP,if_neg (by rw[hc];simp)]
  rw[hd]
  have hn:0≤now∧now≤High:=by simp at hc;omega
  repeat'(first|(with_reducible first|refine zaa _ _ ?_|refine zae ?_|refine zaf ?_)|rw[zad]|simp only[hc,zax,zY,Int.reduceEq,Int.reduceBEq,Int.reduceBNe,Nat.reduceSub,Nat.reduceEqDiff,Nat.reduceAdd,Nat.reduceMul,Nat.reduceLeDiff,Nat.reduceLT,Nat.reduceBEq,reduceCtorEq]|refine zab ?_|refine zac (fun hb=> ?_) (fun hb=> ?_)|(refine And.intro ?_ ?_;exact zI)|refine And.intro (fun hg=> ?_) (fun hg=> ?_)|exact zC|fail)
  refine zau (τ:=Nat×List Int) (fun t=>⟨[dd,ai now,ai lease,dd,dd,dd,dd, .one (.own ⟨7,1,1⟩ 0 t.2.length),dd,dd,dd,dd,dd,dd,dd,dd,dd,dd,dd,dd,dd,dd,dd,dd,al l.length (sessE l),ai l.length,ai t.1,dd,dd,dd,dd,dd,dd,dd,dd,dd,dd,dd,dd,dd,dd,dd,dd],[(7,{next:=2,l:=[none,some {e:=1,var:=false,fz:=false,sz:=1,cells:=(intsE t.2).map C.d}]}),(9,⟨2,[]⟩),(39,⟨2,[]⟩),(40,⟨2,[]⟩)]⟩)
   (fun t=>t.1≤l.length∧t.2.length≤t.1) (fun t=>t.2++((l.drop t.1).filter fun s=>decide (now - s.renewed≥lease)).map Sess.client) (fun t=>l.length - t.1) (0,[])
   ((Gh.nil (i:=7) (s:=7) (sz:=1) rfl).trans (Gh.canon [7] [9,39,40] [] zK rfl rfl)) ⟨Nat.zero_le _,Nat.zero_le _⟩ ?_
  intro⟨i,acc⟩ ⟨hi0,ha⟩ hF K hK
  simp only[List.drop_zero,List.nil_append]at hi0 ha hF hK⊢
  repeat(first|with_reducible refine zaa _ _ ?_|with_reducible refine And.imp_right (zaa _ _) ?_|with_reducible refine And.imp_right (And.imp_right (zaa _ _)) ?_|with_reducible refine And.imp_right (And.imp_right (And.imp_right (zaa _ _))) ?_|rw[zad]|simp only[zB,Nat.reduceSub,Nat.reduceEqDiff,Nat.reduceAdd,Nat.reduceMul,Nat.reduceLeDiff,Nat.reduceLT,Nat.reduceBEq,reduceCtorEq])
  refine zac (fun hlt=> ?_) (fun hge=> ?_)
  ·have hi:i<l.length:=by simpa using hlt
   have hat:=zaV hi
   simp only[List.cons_append,List.nil_append]at hat
   have hw:=zat hi (by omega)
   have hrb:=hr _ (List.getElem_mem hi)
   have hH:High=2305843009213693952:=rfl
   have hw2:IntKind.i64.wrap (now - l[i].renewed)=now - l[i].renewed:=wrap64 (by omega) (by omega)
   have hFs:((l.drop i).filter fun s=>decide (now - s.renewed≥lease)).map Sess.client=if decide (now - l[i].renewed≥lease)=true then l[i].client::((l.drop (i+1)).filter fun s=>decide (now - s.renewed≥lease)).map Sess.client else((l.drop (i+1)).filter fun s=>decide (now - s.renewed≥lease)).map Sess.client:=by
    rw[List.drop_eq_getElem_cons hi,List.filter_cons]
    split<;>simp
   cases hb:decide (now - l[i].renewed≥lease)
   ·rw[hb,if_neg (by simp)]at hFs
    repeat'(first|(with_reducible first|refine zaa _ _ ?_|refine zae ?_|refine zaf ?_)|rw[zad]|simp only[hat,zax,hw2,hb,zY,Int.reduceEq,Int.reduceBEq,Int.reduceBNe,Nat.reduceSub,Nat.reduceEqDiff,Nat.reduceAdd,Nat.reduceMul,Nat.reduceLeDiff,Nat.reduceLT,Nat.reduceBEq,reduceCtorEq]|refine zab ?_|refine zac (fun hb=> ?_) (fun hb=> ?_)|(refine And.intro ?_ ?_;exact zI)|refine And.intro (fun hg=> ?_) (fun hg=> ?_)|exact zC|fail)
    exact hK _ (i+1,acc) (Gh.canon [7] [] [] (by simp only[hw,zan,zaz,zao,zaq,zar,zas,List.set_cons_zero,List.set_cons_succ,and_true,true_and,Int.natCast_zero,Int.cast_ofNat_Int,D.v.injEq,Value.int.injEq];try(repeat'(first|rfl|omega|with_reducible apply And.intro))) rfl rfl) ⟨hi,by simp only;omega⟩ (by simp only;rw[hFs]) (by simp only;omega)
   ·rw[hb,if_pos rfl]at hFs
    repeat'(first|(with_reducible first|refine zaa _ _ ?_|refine zae ?_|refine zaf ?_)|rw[zad]|simp only[hat,zax,hw2,hb,zY,Int.reduceEq,Int.reduceBEq,Int.reduceBNe,Nat.reduceSub,Nat.reduceEqDiff,Nat.reduceAdd,Nat.reduceMul,Nat.reduceLeDiff,Nat.reduceLT,Nat.reduceBEq,reduceCtorEq]|refine zab ?_|refine zac (fun hb=> ?_) (fun hb=> ?_)|(refine And.intro ?_ ?_;exact zI)|refine And.intro (fun hg=> ?_) (fun hg=> ?_)|exact zC|fail)
    exact hK _ (i+1,acc++[l[i].client]) (Gh.canon [7] [] [] (by simp only[hw,List.length_append,List.length_singleton,zan,zaz,zao,zaq,zar,zas,List.set_cons_zero,List.set_cons_succ,and_true,true_and,Int.natCast_zero,Int.cast_ofNat_Int,D.v.injEq,Value.int.injEq];try(repeat'(first|rfl|omega|with_reducible apply And.intro))) rfl (by simp only[List.length_append,List.length_singleton];rw[zc2];rfl)) ⟨hi,by simp only[List.length_append,List.length_singleton];omega⟩ (by simp only[List.append_assoc,List.singleton_append];rw[hFs]) (by simp only;omega)
  ·have hi:i=l.length:=by
    have:¬(i:Int)<l.length:=by simpa using hge
    omega
   rw[hi,List.drop_length,List.filter_nil,List.map_nil,List.append_nil]at hF
   rw[←hF]
   repeat'(first|(with_reducible first|refine zaa _ _ ?_|refine zae ?_|refine zaf ?_)|rw[zad]|simp only[zY,Int.reduceEq,Int.reduceBEq,Int.reduceBNe,Nat.reduceSub,Nat.reduceEqDiff,Nat.reduceAdd,Nat.reduceMul,Nat.reduceLeDiff,Nat.reduceLT,Nat.reduceBEq,reduceCtorEq]|refine zab ?_|refine zac (fun hb=> ?_) (fun hb=> ?_)|(refine And.intro ?_ ?_;exact zI)|refine And.intro (fun hg=> ?_) (fun hg=> ?_)|exact zC|fail)
   simp[rfs1,roLe,rowI]
 ·have hd:dueP l now lease=[]:=by rw[dueP,if_pos hc]
  rw[hd]
  repeat'(first|(with_reducible first|refine zaa _ _ ?_|refine zae ?_|refine zaf ?_)|rw[zad]|simp only[hc,zY,Int.reduceEq,Int.reduceBEq,Int.reduceBNe,Nat.reduceSub,Nat.reduceEqDiff,Nat.reduceAdd,Nat.reduceMul,Nat.reduceLeDiff,Nat.reduceLT,Nat.reduceBEq,reduceCtorEq]|refine zab ?_|refine zac (fun hb=> ?_) (fun hb=> ?_)|(refine And.intro ?_ ?_;exact zI)|refine And.intro (fun hg=> ?_) (fun hg=> ?_)|exact zC|fail)
  simp[rfs1,roLe,rowI]
set_option maxHeartbeats 4000000 in
theorem znZ (l:List Sess) (hs:SS l) (hl:l.length<2^30) (c num now:Int) (hc:isClient c=true) (h1:1≤num) (hn:0≤now∧now≤High) (hf:findS l c=none) (hnum:numbered l num=false):
  CallOK Tryz.prog 112 [.f (al l.length (sessE l)), .f (ai c), .f (ai num), .f (ai now)]
  (fun r o=>r=[.one (.own 3 (openP l c num now).1.length (sessE (openP l c num now).1) false),ri (openP l c num now).2]∧o=[]):=by
 refine CallOK.nil ?_
 refine zak zaA mixed (T:=Ty) (n:=76) Tryz.func112 (c:=Tryz.f112.body.getD .skip) rfl Tryz.results112 Tryz.ntmps112 Tryz.call112 ?_
 simp only[Tryz.f112,Option.getD]
 have hp:=zfc l hs (by omega) c
 have hcl:=zdD c
 rw[show(decide (c≥0)&&decide (c<8))=true from hc]at hcl
 have hnb:=zfb l (by omega) num
 rw[hnum]at hnb
 rw[hf]at hp
 simp only[Option.isSome_none]at hp
 have hcn:=zd2 l.length (sessE l) zax (by omega)
 have e1:decide (num<1)=false:=by simp;omega
 have e2:decide (now<0)=false:=by simp;omega
 have e3:decide (now>2305843009213693952)=false:=by have:High=2305843009213693952:=rfl;simp;omega
 have hin:=zjs l.length (posS l c) (sessE l) [iD c,iD num,iD now] zax rfl zbw hl
 have eo:openP l c num now=if decide (num>High)=true then([],1)else if decide ((l.length:Int)≥5)=true then([],5)else(l.take (posS l c)++⟨c,num,now⟩::l.drop (posS l c),0):=by
  unfold openP
  rw[hf,hnum,hc,e1,e2,e3]
  cases decide (num>High)<;>simp
 rw[eo]
 have hd:(sessE l).drop (posS l c*3)=[]∨∃n1 n2 n3 q,(sessE l).drop (posS l c*3)=iD n1::iD n2::iD n3::q:=by
  rcases Nat.lt_or_ge (posS l c) l.length with h|h
  ·exact .inr ⟨_,_,_,_,zaV h⟩
  ·exact .inl (List.drop_of_length_le (by rw[zax];omega))
 have hti:=zh1 Sess.enc 3 (fun _=>rfl) (l:=l) (k:=posS l c) zbw ⟨c,num,now⟩
 have htl:=zf4 (l:=l) (k:=posS l c) zbw ⟨c,num,now⟩
 cases e4:decide (num>2305843009213693952)
 ·rw[if_neg (by simp)]
  cases e5:decide ((l.length:Int)≥5)
  ·rw[if_neg (by simp)]
   simp only[hti,htl]
   rcases hd with hat|⟨n1,n2,n3,q,hat⟩
   ·rw[hat]at hin
    repeat'(first|(with_reducible first|refine zaa _ _ ?_|refine zae ?_|refine zaf ?_)|rw[zad]|simp only[zax,List.drop_nil,hat,e1,e2,e3,e4,e5,zY,Int.reduceEq,Int.reduceBEq,Int.reduceBNe,Nat.reduceSub,Nat.reduceEqDiff,Nat.reduceAdd,Nat.reduceMul,Nat.reduceLeDiff,Nat.reduceLT,Nat.reduceBEq,reduceCtorEq]|((first|((try refine zai ?_);apply zaj)|(apply zah;intro _));(solve|exact(hp)|exact(hcl)|exact(hnb)|exact(hcn)|(refine CallOK.le (hp) ?_;exact zM)|(refine CallOK.le (hcl) ?_;exact zM)|(refine CallOK.le (hnb) ?_;exact zM)|(refine CallOK.le (hcn) ?_;exact zM)|fail);try case hn=>rfl)|refine zab ?_|refine zac (fun hb=> ?_) (fun hb=> ?_)|(refine And.intro ?_ ?_;exact zI)|refine And.intro (fun hg=> ?_) (fun hg=> ?_)|exact zC|fail)
    refine zbi (mv:= ?mv1) (lent:= ?le1) 0 ?ha1 (hin) ?hb1 ?hc1
    case ha1=>(try simp only[zB,zaF,Nat.reduceSub,Nat.reduceEqDiff,Nat.reduceAdd,Nat.reduceMul,Nat.reduceLeDiff,Nat.reduceLT,Nat.reduceBEq,reduceCtorEq]);exact rfl
    case hb1=>(try simp only[zB,scM,Nat.reduceSub,Nat.reduceEqDiff,Nat.reduceAdd,Nat.reduceMul,Nat.reduceLeDiff,Nat.reduceLT,Nat.reduceBEq,reduceCtorEq]);repeat'(first|rfl|trivial|omega|with_reducible refine And.intro ?_ ?_)
    show aops _ _ _ _ _ _ _ _
    repeat'(first|(with_reducible first|refine zaa _ _ ?_|refine zae ?_|refine zaf ?_)|rw[zad]|simp only[hat,zY,Int.reduceEq,Int.reduceBEq,Int.reduceBNe,Nat.reduceSub,Nat.reduceEqDiff,Nat.reduceAdd,Nat.reduceMul,Nat.reduceLeDiff,Nat.reduceLT,Nat.reduceBEq,reduceCtorEq]|refine zab ?_|refine zac (fun hb=> ?_) (fun hb=> ?_)|(refine And.intro ?_ ?_;exact zI)|refine And.intro (fun hg=> ?_) (fun hg=> ?_)|exact zC|fail)
    simp[rfs2,roLe]
   ·rw[hat]at hin
    repeat'(first|(with_reducible first|refine zaa _ _ ?_|refine zae ?_|refine zaf ?_)|rw[zad]|simp only[zax,hat,e1,e2,e3,e4,e5,zY,Int.reduceEq,Int.reduceBEq,Int.reduceBNe,Nat.reduceSub,Nat.reduceEqDiff,Nat.reduceAdd,Nat.reduceMul,Nat.reduceLeDiff,Nat.reduceLT,Nat.reduceBEq,reduceCtorEq]|((first|((try refine zai ?_);apply zaj)|(apply zah;intro _));(solve|exact(hp)|exact(hcl)|exact(hnb)|exact(hcn)|(refine CallOK.le (hp) ?_;exact zM)|(refine CallOK.le (hcl) ?_;exact zM)|(refine CallOK.le (hnb) ?_;exact zM)|(refine CallOK.le (hcn) ?_;exact zM)|fail);try case hn=>rfl)|refine zab ?_|refine zac (fun hb=> ?_) (fun hb=> ?_)|(refine And.intro ?_ ?_;exact zI)|refine And.intro (fun hg=> ?_) (fun hg=> ?_)|exact zC|fail)
    refine zbi (mv:= ?mv2) (lent:= ?le2) 0 ?ha2 (hin) ?hb2 ?hc2
    case ha2=>(try simp only[zB,zaF,Nat.reduceSub,Nat.reduceEqDiff,Nat.reduceAdd,Nat.reduceMul,Nat.reduceLeDiff,Nat.reduceLT,Nat.reduceBEq,reduceCtorEq]);exact rfl
    case hb2=>(try simp only[zB,scM,Nat.reduceSub,Nat.reduceEqDiff,Nat.reduceAdd,Nat.reduceMul,Nat.reduceLeDiff,Nat.reduceLT,Nat.reduceBEq,reduceCtorEq]);repeat'(first|rfl|trivial|omega|with_reducible refine And.intro ?_ ?_)
    show aops _ _ _ _ _ _ _ _
    repeat'(first|(with_reducible first|refine zaa _ _ ?_|refine zae ?_|refine zaf ?_)|rw[zad]|simp only[hat,zY,Int.reduceEq,Int.reduceBEq,Int.reduceBNe,Nat.reduceSub,Nat.reduceEqDiff,Nat.reduceAdd,Nat.reduceMul,Nat.reduceLeDiff,Nat.reduceLT,Nat.reduceBEq,reduceCtorEq]|refine zab ?_|refine zac (fun hb=> ?_) (fun hb=> ?_)|(refine And.intro ?_ ?_;exact zI)|refine And.intro (fun hg=> ?_) (fun hg=> ?_)|exact zC|fail)
    simp[rfs2,roLe]
  ·rw[if_pos rfl]
   rcases hd with hat|⟨n1,n2,n3,q,hat⟩
   ·repeat'(first|(with_reducible first|refine zaa _ _ ?_|refine zae ?_|refine zaf ?_)|rw[zad]|simp only[zax,List.drop_nil,hat,e1,e2,e3,e4,e5,zY,Int.reduceEq,Int.reduceBEq,Int.reduceBNe,Nat.reduceSub,Nat.reduceEqDiff,Nat.reduceAdd,Nat.reduceMul,Nat.reduceLeDiff,Nat.reduceLT,Nat.reduceBEq,reduceCtorEq]|((first|((try refine zai ?_);apply zaj)|(apply zah;intro _));(solve|exact(hp)|exact(hcl)|exact(hnb)|exact(hcn)|(refine CallOK.le (hp) ?_;exact zM)|(refine CallOK.le (hcl) ?_;exact zM)|(refine CallOK.le (hnb) ?_;exact zM)|(refine CallOK.le (hcn) ?_;exact zM)|fail);try case hn=>rfl)|refine zab ?_|refine zac (fun hb=> ?_) (fun hb=> ?_)|(refine And.intro ?_ ?_;exact zI)|refine And.intro (fun hg=> ?_) (fun hg=> ?_)|exact zC|fail)
    simp[rfs2,roLe]
   ·repeat'(first|(with_reducible first|refine zaa _ _ ?_|refine zae ?_|refine zaf ?_)|rw[zad]|simp only[zax,hat,e1,e2,e3,e4,e5,zY,Int.reduceEq,Int.reduceBEq,Int.reduceBNe,Nat.reduceSub,Nat.reduceEqDiff,Nat.reduceAdd,Nat.reduceMul,Nat.reduceLeDiff,Nat.reduceLT,Nat.reduceBEq,reduceCtorEq]|((first|((try refine zai ?_);apply zaj)|(apply zah;intro _));(solve|exact(hp)|exact(hcl)|exact(hnb)|exact(hcn)|(refine CallOK.le (hp) ?_;exact zM)|(refine CallOK.le (hcl) ?_;exact zM)|(refine CallOK.le (hnb) ?_;exact zM)|(refine CallOK.le (hcn) ?_;exact zM)|fail);try case hn=>rfl)|refine zab ?_|refine zac (fun hb=> ?_) (fun hb=> ?_)|(refine And.intro ?_ ?_;exact zI)|refine And.intro (fun hg=> ?_) (fun hg=> ?_)|exact zC|fail)
    simp[rfs2,roLe]
 ·rw[if_pos rfl]
  rcases hd with hat|⟨n1,n2,n3,q,hat⟩
  ·repeat'(first|(with_reducible first|refine zaa _ _ ?_|refine zae ?_|refine zaf ?_)|rw[zad]|simp only[zax,List.drop_nil,hat,e1,e2,e3,e4,zY,Int.reduceEq,Int.reduceBEq,Int.reduceBNe,Nat.reduceSub,Nat.reduceEqDiff,Nat.reduceAdd,Nat.reduceMul,Nat.reduceLeDiff,Nat.reduceLT,Nat.reduceBEq,reduceCtorEq]|((first|((try refine zai ?_);apply zaj)|(apply zah;intro _));(solve|exact(hp)|exact(hcl)|exact(hnb)|exact(hcn)|(refine CallOK.le (hp) ?_;exact zM)|(refine CallOK.le (hcl) ?_;exact zM)|(refine CallOK.le (hnb) ?_;exact zM)|(refine CallOK.le (hcn) ?_;exact zM)|fail);try case hn=>rfl)|refine zab ?_|refine zac (fun hb=> ?_) (fun hb=> ?_)|(refine And.intro ?_ ?_;exact zI)|refine And.intro (fun hg=> ?_) (fun hg=> ?_)|exact zC|fail)
   simp[rfs2,roLe]
  ·repeat'(first|(with_reducible first|refine zaa _ _ ?_|refine zae ?_|refine zaf ?_)|rw[zad]|simp only[zax,hat,e1,e2,e3,e4,zY,Int.reduceEq,Int.reduceBEq,Int.reduceBNe,Nat.reduceSub,Nat.reduceEqDiff,Nat.reduceAdd,Nat.reduceMul,Nat.reduceLeDiff,Nat.reduceLT,Nat.reduceBEq,reduceCtorEq]|((first|((try refine zai ?_);apply zaj)|(apply zah;intro _));(solve|exact(hp)|exact(hcl)|exact(hnb)|exact(hcn)|(refine CallOK.le (hp) ?_;exact zM)|(refine CallOK.le (hcl) ?_;exact zM)|(refine CallOK.le (hnb) ?_;exact zM)|(refine CallOK.le (hcn) ?_;exact zM)|fail);try case hn=>rfl)|refine zab ?_|refine zac (fun hb=> ?_) (fun hb=> ?_)|(refine And.intro ?_ ?_;exact zI)|refine And.intro (fun hg=> ?_) (fun hg=> ?_)|exact zC|fail)
   simp[rfs2,roLe]
theorem zmt (l:List Sess) (hs:SS l) (hl:l.length<2^30) (c now:Int) (hn:0≤now∧now≤High) (hf:(findS l c).isSome=true):CallOK Tryz.prog 75 [.f (al l.length (sessE l)), .f (ai c), .f (ai now)]
  (fun r o=>r=[.one (.own 3 (renewP l c now).1.length (sessE (renewP l c now).1) false),ri (renewP l c now).2]∧o=[]):=by
 refine CallOK.nil ?_
 refine zak zaA mixed (T:=Ty) (n:=39) Tryz.func75 (c:=Tryz.f75.body.getD .skip) rfl Tryz.results75 Tryz.ntmps75 Tryz.call75 ?_
 simp only[Tryz.f75,Option.getD]
 have hp:=zfc l hs (by omega) c
 have hcn:=zd2 l.length (sessE l) zax (by omega)
 obtain⟨x,hx⟩:=Option.isSome_iff_exists.1 hf
 obtain⟨⟨hi,he⟩,hc⟩:=zem hs hx
 rw[hf]at hp
 have e2:decide (now<0)=false:=by simp;omega
 have e3:decide (now>2305843009213693952)=false:=by have:High=2305843009213693952:=rfl;simp;omega
 have hat:=zaV hi
 rw[he]at hat
 simp only[List.cons_append,List.nil_append]at hat
 have hat2:(sessE l).drop (posS l c*3+2)=iD x.renewed::sessE (l.drop (posS l c+1)):=by rw[←List.drop_drop,hat];rfl
 have hset:=zbr Sess.enc 3 (fun _=>rfl) hi (k:=2) (by decide) (iD (max x.renewed now)) ⟨x.client,x.num,max x.renewed now⟩ (by rw[he];rfl)
 have hr:renewP l c now=(l.set (posS l c) ⟨x.client,x.num,max x.renewed now⟩,0):=by
  unfold renewP
  rw[if_neg (by simp;omega),hx]
 rw[hr]
 repeat'(first|(with_reducible first|refine zaa _ _ ?_|refine zae ?_|refine zaf ?_)|rw[zad]|simp only[zax,e2,e3,hat2,hset,←List.map_drop,List.map_cons,zY,Int.reduceEq,Int.reduceBEq,Int.reduceBNe,Nat.reduceSub,Nat.reduceEqDiff,Nat.reduceAdd,Nat.reduceMul,Nat.reduceLeDiff,Nat.reduceLT,Nat.reduceBEq,reduceCtorEq]|((first|((try refine zai ?_);apply zaj)|(apply zah;intro _));(solve|exact(hp)|exact(hcn)|(refine CallOK.le (hp) ?_;exact zM)|(refine CallOK.le (hcn) ?_;exact zM)|fail);try case hn=>rfl)|refine zab ?_|refine zac (fun hb=> ?_) (fun hb=> ?_)|(refine And.intro ?_ ?_;exact zI)|refine And.intro (fun hg=> ?_) (fun hg=> ?_)|exact zC|fail)
 simp[rfs2,roLe]
theorem zhJ (l:List Sess) (hl:l.length<2^30):CallOK Tryz.prog 51 [.f (al l.length (sessE l))] (fun r o=>r=[rb (sessB l)]∧o=[]):=by
 refine zak zaA mixed (T:=Ty) (n:=61) Tryz.func51 (c:=Tryz.f51.body.getD .skip) rfl Tryz.results51 Tryz.ntmps51 Tryz.call51 ?_
 simp only[Tryz.f51,Option.getD]
 cases h5:decide ((l.length:Int)>5)
 ·have hs:sessB l=checkP (sessQ l) 0 l:=by rw[sessB,h5];rfl
  rw[hs]
  repeat'(first|(with_reducible first|refine zaa _ _ ?_|refine zae ?_|refine zaf ?_)|rw[zad]|simp only[h5,zax,zY,Int.reduceEq,Int.reduceBEq,Int.reduceBNe,Nat.reduceSub,Nat.reduceEqDiff,Nat.reduceAdd,Nat.reduceMul,Nat.reduceLeDiff,Nat.reduceLT,Nat.reduceBEq,reduceCtorEq]|refine zab ?_|refine zac (fun hb=> ?_) (fun hb=> ?_)|(refine And.intro ?_ ?_;exact zI)|refine And.intro (fun hg=> ?_) (fun hg=> ?_)|exact zC|fail)
  refine zau (τ:=Nat) (fun i=>⟨[al l.length (sessE l),dd,dd,dd,dd,dd,dd,dd,al l.length (sessE l),ai l.length,ai i,dd,dd,dd,dd,dd,dd,dd,dd,dd,dd,dd,dd,dd,dd,dd,dd,dd,dd,dd,dd,dd,dd,dd,dd,dd,dd,dd,dd,dd,dd,dd,dd,dd,dd,dd,dd,dd,dd,dd,dd,dd,dd,dd,dd,dd,dd,dd,dd,dd,dd],[(4,⟨2,[]⟩)]⟩)
   (fun i=>i≤l.length) (fun i=>checkP (sessQ l) i (l.drop i)) (fun i=>l.length - i) 0
   (Gh.canon [] [4] [] zK rfl rfl) (Nat.zero_le _) ?_
  intro i hi0 hF K hK
  simp only[List.drop_zero]at hF hK⊢
  repeat(first|with_reducible refine zaa _ _ ?_|with_reducible refine And.imp_right (zaa _ _) ?_|with_reducible refine And.imp_right (And.imp_right (zaa _ _)) ?_|with_reducible refine And.imp_right (And.imp_right (And.imp_right (zaa _ _))) ?_|rw[zad]|simp only[zB,Nat.reduceSub,Nat.reduceEqDiff,Nat.reduceAdd,Nat.reduceMul,Nat.reduceLeDiff,Nat.reduceLT,Nat.reduceBEq,reduceCtorEq])
  refine zac (fun hlt=> ?_) (fun hge=> ?_)
  ·have hi:i<l.length:=by simpa using hlt
   have hat:=zaV hi
   simp only[List.cons_append,List.nil_append]at hat
   have hw:=zat hi (by omega)
   rw[zaB hi]at hF
   have hcl:=zdD l[i].client
   have hnb:=zfb (l.take i) (by rw[List.length_take];omega) l[i].num
   have hlt2:(l.take i).length=i:=by rw[List.length_take];omega
   have htk:(sessE l).take (i*3)=sessE (l.take i):=zbU Sess.enc 3 (fun _=>rfl) (by omega)
   rw[hlt2]at hnb
   cases e0:decide ((i:Int)>0)
   ·have hq:sessQ l i l[i]=(!(!(decide (l[i].client≥0)&&decide (l[i].client<8))||decide (l[i].num<1)||decide (l[i].num>2305843009213693952)||decide (l[i].renewed<0)||decide (l[i].renewed>2305843009213693952))&& !(numbered (l.take i) l[i].num)):=by
     unfold sessQ okSess isClient
     have:decide (i>0)=false:=by simpa using e0
     rw[this]
     simp only[Bool.not_or,Bool.not_not,Bool.false_and,Bool.false_or]
    have h0:i=0:=by simpa using e0
    have hp:(sessE l).drop ((IntKind.i64.wrap ((i:Int) - 1)).toNat*3)=l[i].enc++sessE (l.drop (i+1)):=by
     rw[←zaV hi,h0];rfl
    repeat'(first|(with_reducible first|refine zaa _ _ ?_|refine zae ?_|refine zaf ?_)|rw[zad]|simp only[hat,hp,htk,e0,List.cons_append,List.nil_append,zax,zY,Int.reduceEq,Int.reduceBEq,Int.reduceBNe,Nat.reduceSub,Nat.reduceEqDiff,Nat.reduceAdd,Nat.reduceMul,Nat.reduceLeDiff,Nat.reduceLT,Nat.reduceBEq,reduceCtorEq]|((first|((try refine zai ?_);apply zaj)|(apply zah;intro _));(solve|exact(hcl)|exact(hnb)|(refine CallOK.le (hcl) ?_;exact zM)|(refine CallOK.le (hnb) ?_;exact zM)|fail);try case hn=>rfl)|refine zab ?_|refine zac (fun hb=> ?_) (fun hb=> ?_)|(refine And.intro ?_ ?_;exact zI)|refine And.intro (fun hg=> ?_) (fun hg=> ?_)|exact zC|fail)
    ·rw[hq,hb,if_neg (by simp)]at hF
     rw[←hF]
    ·rename_i ha
     rw[hq,ha,hb,if_neg (by simp)]at hF
     rw[←hF]
    ·rename_i ha
     exact hK _ (i+1) (Gh.canon [] [] [] (by simp only[hw,zan,zaz,zao,zaq,zar,zas,List.set_cons_zero,List.set_cons_succ,and_true,true_and,Int.natCast_zero,Int.cast_ofNat_Int,D.v.injEq,Value.int.injEq];try(repeat'(first|rfl|omega|with_reducible apply And.intro))) rfl rfl) hi (by rw[zaB hi,hq,ha,hb];rfl) (by omega)
   ·have hq:sessQ l i l[i]=(!(!(decide (l[i].client≥0)&&decide (l[i].client<8))||decide (l[i].num<1)||decide (l[i].num>2305843009213693952)||decide (l[i].renewed<0)||decide (l[i].renewed>2305843009213693952))&& !(decide ((l[i - 1]'(by omega)).client≥l[i].client)||numbered (l.take i) l[i].num)):=by
     unfold sessQ okSess isClient prevS
     have:decide (i>0)=true:=by simpa using e0
     rw[this,List.getElem?_eq_getElem (by omega)]
     simp only[Bool.not_or,Bool.not_not,Bool.true_and,Option.map_some,Option.getD_some]
    have h0:0<i:=by simpa using e0
    have hp:=zaV (show i - 1<l.length by omega)
    have hw1:IntKind.i64.wrap ((i:Int) - 1)=((i - 1:Nat):Int):=by rw[wrap64 (by omega) (by omega)];omega
    repeat'(first|(with_reducible first|refine zaa _ _ ?_|refine zae ?_|refine zaf ?_)|rw[zad]|simp only[hat,hp,hw1,htk,e0,List.cons_append,List.nil_append,zax,zY,Int.reduceEq,Int.reduceBEq,Int.reduceBNe,Nat.reduceSub,Nat.reduceEqDiff,Nat.reduceAdd,Nat.reduceMul,Nat.reduceLeDiff,Nat.reduceLT,Nat.reduceBEq,reduceCtorEq]|((first|((try refine zai ?_);apply zaj)|(apply zah;intro _));(solve|exact(hcl)|exact(hnb)|(refine CallOK.le (hcl) ?_;exact zM)|(refine CallOK.le (hnb) ?_;exact zM)|fail);try case hn=>rfl)|refine zab ?_|refine zac (fun hb=> ?_) (fun hb=> ?_)|(refine And.intro ?_ ?_;exact zI)|refine And.intro (fun hg=> ?_) (fun hg=> ?_)|exact zC|fail)
    ·rw[hq,hb,if_neg (by simp)]at hF
     rw[←hF]
    ·rename_i ha
     rw[hq,ha,hb,if_neg (by simp)]at hF
     rw[←hF]
    ·rename_i ha
     exact hK _ (i+1) (Gh.canon [] [] [] (by simp only[hw,zan,zaz,zao,zaq,zar,zas,List.set_cons_zero,List.set_cons_succ,and_true,true_and,Int.natCast_zero,Int.cast_ofNat_Int,D.v.injEq,Value.int.injEq];try(repeat'(first|rfl|omega|with_reducible apply And.intro))) rfl rfl) hi (by rw[zaB hi,hq,ha,hb];rfl) (by omega)
  ·have hi:i=l.length:=by
    have:¬(i:Int)<l.length:=by simpa using hge
    omega
   rw[zbf hi]at hF
   rw[←hF]
   repeat'(first|(with_reducible first|refine zaa _ _ ?_|refine zae ?_|refine zaf ?_)|rw[zad]|simp only[zY,Int.reduceEq,Int.reduceBEq,Int.reduceBNe,Nat.reduceSub,Nat.reduceEqDiff,Nat.reduceAdd,Nat.reduceMul,Nat.reduceLeDiff,Nat.reduceLT,Nat.reduceBEq,reduceCtorEq]|refine zab ?_|refine zac (fun hb=> ?_) (fun hb=> ?_)|(refine And.intro ?_ ?_;exact zI)|refine And.intro (fun hg=> ?_) (fun hg=> ?_)|exact zC|fail)
 ·have hs:sessB l=false:=by rw[sessB,h5];rfl
  rw[hs]
  repeat'(first|(with_reducible first|refine zaa _ _ ?_|refine zae ?_|refine zaf ?_)|rw[zad]|simp only[h5,zax,zY,Int.reduceEq,Int.reduceBEq,Int.reduceBNe,Nat.reduceSub,Nat.reduceEqDiff,Nat.reduceAdd,Nat.reduceMul,Nat.reduceLeDiff,Nat.reduceLT,Nat.reduceBEq,reduceCtorEq]|refine zab ?_|refine zac (fun hb=> ?_) (fun hb=> ?_)|(refine And.intro ?_ ?_;exact zI)|refine And.intro (fun hg=> ?_) (fun hg=> ?_)|exact zC|fail)
end Go.Proofs.YtniafckaafcpbaaGreat
