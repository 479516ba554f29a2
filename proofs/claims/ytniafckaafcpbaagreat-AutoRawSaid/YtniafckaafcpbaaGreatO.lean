import Derived.Test.YtniafckaafcpbaaGreatN
namespace Go.Proofs.YtniafckaafcpbaaGreat
open Go.Pk
set_option maxRecDepth 100000
set_option linter.unusedSimpArgs false
set_option linter.unusedVariables false
def curL (l:List Lk) (gone:List Int) (i:Nat):List Lk:=(l.take i).map (lockWithout gone)++l.drop i
theorem zi5 {l:List Lk} {gone:List Int} {i:Nat} (hi:i≤l.length):(curL l gone i).length=l.length:=by
 unfold curL
 rw[List.length_append,List.length_map,List.length_take,List.length_drop];omega
theorem zlj {l:List Lk} {gone:List Int} {i:Nat} (hi:i<l.length):∃h:i<(curL l gone i).length,(curL l gone i)[i]=l[i]:=by
 have hl:((l.take i).map (lockWithout gone)).length=i:=by rw[List.length_map,List.length_take];omega
 have h:(curL l gone i)[i]? =some l[i]:=by
  unfold curL
  rw[List.getElem?_append_right (by omega),hl,Nat.sub_self,List.getElem?_drop,Nat.add_zero,List.getElem?_eq_getElem hi]
 exact zgR h
theorem zhK {l:List Lk} {gone:List Int} {i:Nat} (hi:i<l.length):(curL l gone i).set i (lockWithout gone l[i])=curL l gone (i+1):=by
 have hl:((l.take i).map (lockWithout gone)).length=i:=by rw[List.length_map,List.length_take];omega
 unfold curL
 rw[List.set_append_right _ _ (by omega),hl,Nat.sub_self,List.drop_eq_getElem_cons hi,List.set_cons_zero,List.take_add_one,List.getElem?_eq_getElem hi]
 simp only[Option.toList,List.map_append,List.map_cons,List.map_nil,List.append_assoc,List.cons_append,List.nil_append]
theorem zi6 (l:List Lk) (gone:List Int):curL l gone l.length=l.map (lockWithout gone):=by
 unfold curL
 rw[List.take_length,List.drop_length,List.append_nil]
theorem zfW {gone:List Int} {t:Int} {L:List Lk} {i:Nat} {g:Int} (hi:i<L.length):dropR gone t (L.drop i) g=if hasI gone L[i].holder=true then
   match L[i].line with
   |[]=>dropR gone t (L.drop (i+1)) g
   |c::rest=>(⟨L[i].name,c,t+g+1,rest⟩::(dropR gone t (L.drop (i+1)) (g+1)).1,(dropR gone t (L.drop (i+1)) (g+1)).2)
  else(L[i]::(dropR gone t (L.drop (i+1)) g).1,(dropR gone t (L.drop (i+1)) g).2):=by
 rw[List.drop_eq_getElem_cons hi,dropR]
 cases L[i].line<;>rfl
theorem zn0 (l:List Lk) (hl:l.length<2^30) (hll:∀k∈l,k.line.length<2^30) (gone:List Int) (hg:gone.length<2^30) (t:Int) (ht:0≤t∧t≤2^61):
  CallOK Tryz.prog 65 [.f (al l.length (locksE l)), .f (al gone.length (intsE gone)), .f (ai t)]
  (fun r o=>r=[.one (.own 4 (dropP l gone t).1.length (locksE (dropP l gone t).1) false),ri (dropP l gone t).2]∧o=[]):=by
 refine zak zaA mixed (T:=Ty) (n:=63) Tryz.func65 (c:=Tryz.f65.body.getD .skip) rfl Tryz.results65 Tryz.ntmps65 Tryz.call65 ?_
 simp only[Tryz.f65,Option.getD]
 have hco:=zd9 l hl hll
 repeat'(first|(with_reducible first|refine zaa _ _ ?_|refine zae ?_|refine zaf ?_)|rw[zad]|simp only[zam,zY,Int.reduceEq,Int.reduceBEq,Int.reduceBNe,Nat.reduceSub,Nat.reduceEqDiff,Nat.reduceAdd,Nat.reduceMul,Nat.reduceLeDiff,Nat.reduceLT,Nat.reduceBEq,reduceCtorEq]|((first|((try refine zai ?_);apply zaj)|(apply zah;intro _));(solve|exact(hco)|(refine CallOK.le (hco) ?_;exact zM)|fail);try case hn=>rfl)|refine zab ?_|refine zac (fun hb=> ?_) (fun hb=> ?_)|(refine And.intro ?_ ?_;exact zI)|refine And.intro (fun hg=> ?_) (fun hg=> ?_)|exact zC|fail)
 refine zau (τ:=Nat) (fun i=>⟨[dd,al gone.length (intsE gone),ai t,dd,dd,dd,dd,dd, .one (.own ⟨8,1,1⟩ 0 l.length),dd,dd,dd,dd,dd,dd,dd,ai l.length,ai i,dd,dd,dd,dd,dd,dd,dd,dd,dd,dd,dd,dd,dd,dd,dd,dd,dd,dd,dd,dd,dd,dd,dd,dd,dd,dd,dd,dd,dd,dd,dd,dd,dd,dd,dd,dd,dd,dd,dd,dd,dd,dd,dd,dd,dd],[(14,⟨2,[]⟩),(8,{next:=2,l:=[none,some {e:=1,var:=false,fz:=false,sz:=4,cells:=(locksE (curL l gone i)).map C.d}]}),(28,⟨2,[]⟩)]⟩)
  (fun i=>i≤l.length) (fun _=>()) (fun i=>l.length - i) 0
  (Gh.canon [8] [28] [] zK rfl rfl) (Nat.zero_le _) ?_
 intro i hi0 hF K hK
 repeat(first|with_reducible refine zaa _ _ ?_|with_reducible refine And.imp_right (zaa _ _) ?_|with_reducible refine And.imp_right (And.imp_right (zaa _ _)) ?_|with_reducible refine And.imp_right (And.imp_right (And.imp_right (zaa _ _))) ?_|rw[zad]|simp only[zB,Nat.reduceSub,Nat.reduceEqDiff,Nat.reduceAdd,Nat.reduceMul,Nat.reduceLeDiff,Nat.reduceLT,Nat.reduceBEq,reduceCtorEq])
 refine zac (fun hlt=> ?_) (fun hge=> ?_)
 ·have hi:i<l.length:=by simpa using hlt
  obtain⟨hic,hce⟩:=zlj (gone:=gone) hi
  have hat:=zaG hic
  rw[hce]at hat
  have hat2:(locksE (curL l gone i)).drop (i*4+3)= .sl l[i].line.length (intsE l[i].line)::locksE ((curL l gone i).drop (i+1)):=by rw[←List.drop_drop,hat];rfl
  have hw:=zat hi (by omega)
  have hwo:=zjn l[i].line gone (hll _ (List.getElem_mem hi)) hg
  have hset:=zbr Lk.enc 4 (fun _=>rfl) hic (k:=3) (by decide) (.sl (withoutP l[i].line gone).length (intsE (withoutP l[i].line gone))) (lockWithout gone l[i]) (by rw[hce];rfl)
  rw[zhK hi]at hset
  repeat'(first|(with_reducible first|refine zaa _ _ ?_|refine zae ?_|refine zaf ?_)|rw[zad]|simp only[hat2,hset,rowI,←List.map_drop,List.map_cons,zam,zi5 hi0,zY,Int.reduceEq,Int.reduceBEq,Int.reduceBNe,Nat.reduceSub,Nat.reduceEqDiff,Nat.reduceAdd,Nat.reduceMul,Nat.reduceLeDiff,Nat.reduceLT,Nat.reduceBEq,reduceCtorEq]|((first|((try refine zai ?_);apply zaj)|(apply zah;intro _));(solve|exact(hwo)|(refine CallOK.le (hwo) ?_;exact zM)|fail);try case hn=>rfl)|refine zab ?_|refine zac (fun hb=> ?_) (fun hb=> ?_)|(refine And.intro ?_ ?_;exact zI)|refine And.intro (fun hg=> ?_) (fun hg=> ?_)|exact zC|fail)
  exact hK _ (i+1) (Gh.canon [8] [] [] (by simp only[hw,zan,zaz,zao,zaq,zar,zas,List.set_cons_zero,List.set_cons_succ,and_true,true_and,Int.natCast_zero,Int.cast_ofNat_Int,D.v.injEq,Value.int.injEq];try(repeat'(first|rfl|omega|with_reducible apply And.intro))) rfl rfl) hi rfl (by omega)
 ·have hi:i=l.length:=by
   have:¬(i:Int)<l.length:=by simpa using hge
   omega
  rw[hi,zi6]
  have hml:(l.map (lockWithout gone)).length=l.length:=List.length_map ..
  repeat'(first|(with_reducible first|refine zaa _ _ ?_|refine zae ?_|refine zaf ?_)|rw[zad]|simp only[zY,Int.reduceEq,Int.reduceBEq,Int.reduceBNe,Nat.reduceSub,Nat.reduceEqDiff,Nat.reduceAdd,Nat.reduceMul,Nat.reduceLeDiff,Nat.reduceLT,Nat.reduceBEq,reduceCtorEq]|refine zab ?_|refine zac (fun hb=> ?_) (fun hb=> ?_)|(refine And.intro ?_ ?_;exact zI)|refine And.intro (fun hg=> ?_) (fun hg=> ?_)|exact zC|fail)
  refine zau (τ:=List Lk×Nat×Int) (fun q=>⟨[dd,al gone.length (intsE gone),ai t,dd,dd,dd,dd,dd, .one (.own ⟨8,1,1⟩ 0 q.1.length),dd,ai q.2.2,ai q.2.1,dd,dd,dd,dd,dd,dd,dd,dd,dd,dd,dd,dd,dd,dd,dd,dd,dd,dd,dd,dd,dd,dd,dd,dd,dd,dd,dd,dd,dd,dd,dd,dd,dd,dd,dd,dd,dd,dd,dd,dd,dd,dd,dd,dd,dd,dd,dd,dd,dd,dd,dd],[(14,⟨2,[]⟩),(8,{next:=2,l:=[none,some {e:=1,var:=false,fz:=false,sz:=4,cells:=(locksE q.1).map C.d}]}),(28,⟨2,[]⟩),(52,⟨2,[]⟩)]⟩)
   (fun q=>q.2.1≤q.1.length∧q.1.length≤l.length∧(0≤q.2.2∧q.2.2+q.1.length≤q.2.1+l.length)∧∀k∈q.1,k.line.length<2^30)
   (fun q=>(q.1.take q.2.1++(dropR gone t (q.1.drop q.2.1) q.2.2).1,(dropR gone t (q.1.drop q.2.1) q.2.2).2)) (fun q=>q.1.length - q.2.1) (l.map (lockWithout gone),0,0)
   (Gh.canon [8] [52] [] zK rfl rfl) ⟨Nat.zero_le _,by simp,by simp, ?_⟩ ?_
  ·intro k hk
   obtain⟨k0,hk0,rfl⟩:=List.mem_map.1 hk
   exact Nat.lt_of_le_of_lt (List.length_filter_le ..) (hll k0 hk0)
  intro⟨L,i,g⟩ ⟨j1,j2,j3,j4⟩ hF K hK
  simp only[List.drop_zero,List.take_zero,List.nil_append]at j1 j2 j3 j4 hF hK⊢
  repeat(first|with_reducible refine zaa _ _ ?_|with_reducible refine And.imp_right (zaa _ _) ?_|with_reducible refine And.imp_right (And.imp_right (zaa _ _)) ?_|with_reducible refine And.imp_right (And.imp_right (And.imp_right (zaa _ _))) ?_|rw[zad]|simp only[zB,Nat.reduceSub,Nat.reduceEqDiff,Nat.reduceAdd,Nat.reduceMul,Nat.reduceLeDiff,Nat.reduceLT,Nat.reduceBEq,reduceCtorEq])
  refine zac (fun hlt=> ?_) (fun hge=> ?_)
  ·have hi:i<L.length:=by simpa using hlt
   have hat:=zaG hi
   have hat1:(locksE L).drop (i*4+1)=iD L[i].holder::iD L[i].token:: .sl L[i].line.length (intsE L[i].line)::locksE (L.drop (i+1)):=by rw[←List.drop_drop,hat];rfl
   have hcn:=zaU gone (by omega) L[i].holder
   have hps:=zli L i hi (by omega) j4 (t+g) (by omega)
   have hwt:IntKind.i64.wrap (t+g)=t+g:=wrap64 (by omega) (by omega)
   have hw:=zat hi (by omega)
   have hdr:=zfW (gone:=gone) (t:=t) (g:=g) hi
   cases hh:hasI gone L[i].holder
   ·rw[hh,if_neg (by simp)]at hdr
    rw[show(gone.any fun x=>L[i].holder==x)=false from hh]at hcn
    repeat'(first|(with_reducible first|refine zaa _ _ ?_|refine zae ?_|refine zaf ?_)|rw[zad]|simp only[hat1,←List.map_drop,List.map_cons,zam,zY,Int.reduceEq,Int.reduceBEq,Int.reduceBNe,Nat.reduceSub,Nat.reduceEqDiff,Nat.reduceAdd,Nat.reduceMul,Nat.reduceLeDiff,Nat.reduceLT,Nat.reduceBEq,reduceCtorEq]|((first|((try refine zai ?_);apply zaj)|(apply zah;intro _));(solve|exact(hcn)|(refine CallOK.le (hcn) ?_;exact zM)|fail);try case hn=>rfl)|refine zab ?_|refine zac (fun hb=> ?_) (fun hb=> ?_)|(refine And.intro ?_ ?_;exact zI)|refine And.intro (fun hg=> ?_) (fun hg=> ?_)|exact zC|fail)
    exact hK _ (L,i+1,g) (Gh.canon [8] [] [] (by simp only[hw,zan,zaz,zao,zaq,zar,zas,List.set_cons_zero,List.set_cons_succ,and_true,true_and,Int.natCast_zero,Int.cast_ofNat_Int,D.v.injEq,Value.int.injEq];try(repeat'(first|rfl|omega|with_reducible apply And.intro))) rfl rfl) ⟨hi,j2,by simp only;omega,j4⟩ (by simp only;rw[hdr,List.take_add_one,List.getElem?_eq_getElem hi];simp only[Option.toList,List.append_assoc,List.cons_append,List.nil_append]) (by simp only;omega)
   ·rw[show(gone.any fun x=>L[i].holder==x)=true from hh]at hcn
    rw[hh,if_pos rfl]at hdr
    cases hline:L[i].line with
    |nil=>
     have hp:passP L i L[i] (t+g)=(L.eraseIdx i,0):=by unfold passP;rw[hline]
     rw[hp]at hps
     rw[hline]at hdr hat1
     simp only at hdr
     have hel:=zgT hi
     repeat'(first|(with_reducible first|refine zaa _ _ ?_|refine zae ?_|refine zaf ?_)|rw[zad]|simp only[hat1,hwt,←List.map_drop,List.map_cons,zam,zY,Int.reduceEq,Int.reduceBEq,Int.reduceBNe,Nat.reduceSub,Nat.reduceEqDiff,Nat.reduceAdd,Nat.reduceMul,Nat.reduceLeDiff,Nat.reduceLT,Nat.reduceBEq,reduceCtorEq]|((first|((try refine zai ?_);apply zaj)|(apply zah;intro _));(solve|exact(hcn)|(refine CallOK.le (hcn) ?_;exact zM)|fail);try case hn=>rfl)|refine zab ?_|refine zac (fun hb=> ?_) (fun hb=> ?_)|(refine And.intro ?_ ?_;exact zI)|refine And.intro (fun hg=> ?_) (fun hg=> ?_)|exact zC|fail)
     refine zbi (mv:= ?mv1) (lent:= ?le1) 0 ?ha1 (hps) ?hb1 ?hc1
     case ha1=>(try simp only[zB,zaF,Nat.reduceSub,Nat.reduceEqDiff,Nat.reduceAdd,Nat.reduceMul,Nat.reduceLeDiff,Nat.reduceLT,Nat.reduceBEq,reduceCtorEq]);exact rfl
     case hb1=>(try simp only[zB,scM,Nat.reduceSub,Nat.reduceEqDiff,Nat.reduceAdd,Nat.reduceMul,Nat.reduceLeDiff,Nat.reduceLT,Nat.reduceBEq,reduceCtorEq]);repeat'(first|rfl|trivial|omega|with_reducible refine And.intro ?_ ?_)
     show aops _ _ _ _ _ _ _ _
     repeat'(first|(with_reducible first|refine zaa _ _ ?_|refine zae ?_|refine zaf ?_)|rw[zad]|simp only[zY,Int.reduceEq,Int.reduceBEq,Int.reduceBNe,Nat.reduceSub,Nat.reduceEqDiff,Nat.reduceAdd,Nat.reduceMul,Nat.reduceLeDiff,Nat.reduceLT,Nat.reduceBEq,reduceCtorEq]|refine zab ?_|refine zac (fun hb=> ?_) (fun hb=> ?_)|(refine And.intro ?_ ?_;exact zI)|refine And.intro (fun hg=> ?_) (fun hg=> ?_)|exact zC|fail)
     have hw0:IntKind.i64.wrap ((i:Int)+0)=(i:Int):=by rw[Int.add_zero];exact wrap64 (by omega) (by omega)
     have hg0:IntKind.i64.wrap (g+0)=g:=by rw[Int.add_zero];exact wrap64 (by omega) (by omega)
     refine hK _ (L.eraseIdx i,i,g) (Gh.canon [8] [] [] (by simp only[hw0,hg0,zan,zaz,zao,zaq,zar,zas,List.set_cons_zero,List.set_cons_succ,and_true,true_and,Int.natCast_zero,Int.cast_ofNat_Int,D.v.injEq,Value.int.injEq];try(repeat'(first|rfl|omega|with_reducible apply And.intro))) rfl rfl) ⟨by simp only;omega,by simp only;omega,by simp only;omega,fun k hk=>j4 k (List.mem_of_mem_eraseIdx hk)⟩ ?_ (by simp only;omega)
     simp only
     rw[hdr]
     have e1:(L.eraseIdx i).take i=L.take i:=by rw[List.eraseIdx_eq_take_drop_succ,List.take_left' (by rw[List.length_take];omega)]
     have e2:(L.eraseIdx i).drop i=L.drop (i+1):=by rw[List.eraseIdx_eq_take_drop_succ,List.drop_left' (by rw[List.length_take];omega)]
     rw[e1,e2]
    |cons c rest=>
     have hp:passP L i L[i] (t+g)=(L.set i ⟨L[i].name,c,t+g+1,rest⟩,1):=by unfold passP;rw[hline]
     rw[hp]at hps
     rw[hline]at hdr hat1
     simp only at hdr
     repeat'(first|(with_reducible first|refine zaa _ _ ?_|refine zae ?_|refine zaf ?_)|rw[zad]|simp only[hat1,hwt,←List.map_drop,List.map_cons,zam,zY,Int.reduceEq,Int.reduceBEq,Int.reduceBNe,Nat.reduceSub,Nat.reduceEqDiff,Nat.reduceAdd,Nat.reduceMul,Nat.reduceLeDiff,Nat.reduceLT,Nat.reduceBEq,reduceCtorEq]|((first|((try refine zai ?_);apply zaj)|(apply zah;intro _));(solve|exact(hcn)|(refine CallOK.le (hcn) ?_;exact zM)|fail);try case hn=>rfl)|refine zab ?_|refine zac (fun hb=> ?_) (fun hb=> ?_)|(refine And.intro ?_ ?_;exact zI)|refine And.intro (fun hg=> ?_) (fun hg=> ?_)|exact zC|fail)
     refine zbi (mv:= ?mv2) (lent:= ?le2) 0 ?ha2 (hps) ?hb2 ?hc2
     case ha2=>(try simp only[zB,zaF,Nat.reduceSub,Nat.reduceEqDiff,Nat.reduceAdd,Nat.reduceMul,Nat.reduceLeDiff,Nat.reduceLT,Nat.reduceBEq,reduceCtorEq]);exact rfl
     case hb2=>(try simp only[zB,scM,Nat.reduceSub,Nat.reduceEqDiff,Nat.reduceAdd,Nat.reduceMul,Nat.reduceLeDiff,Nat.reduceLT,Nat.reduceBEq,reduceCtorEq]);repeat'(first|rfl|trivial|omega|with_reducible refine And.intro ?_ ?_)
     show aops _ _ _ _ _ _ _ _
     repeat'(first|(with_reducible first|refine zaa _ _ ?_|refine zae ?_|refine zaf ?_)|rw[zad]|simp only[zY,Int.reduceEq,Int.reduceBEq,Int.reduceBNe,Nat.reduceSub,Nat.reduceEqDiff,Nat.reduceAdd,Nat.reduceMul,Nat.reduceLeDiff,Nat.reduceLT,Nat.reduceBEq,reduceCtorEq]|refine zab ?_|refine zac (fun hb=> ?_) (fun hb=> ?_)|(refine And.intro ?_ ?_;exact zI)|refine And.intro (fun hg=> ?_) (fun hg=> ?_)|exact zC|fail)
     have hg1:IntKind.i64.wrap (g+1)=g+1:=wrap64 (by omega) (by omega)
     refine hK _ (L.set i ⟨L[i].name,c,t+g+1,rest⟩,i+1,g+1) (Gh.canon [8] [] [] (by simp only[hw,hg1,zan,zaz,zao,zaq,zar,zas,List.set_cons_zero,List.set_cons_succ,and_true,true_and,Int.natCast_zero,Int.cast_ofNat_Int,D.v.injEq,Value.int.injEq];try(repeat'(first|rfl|omega|with_reducible apply And.intro))) rfl rfl) ⟨by simp only[List.length_set];omega,by simp only[List.length_set];omega,by simp only[List.length_set];omega,fun k hk=> ?_⟩ ?_ (by simp only[List.length_set];omega)
     ·rcases List.mem_or_eq_of_mem_set hk with h|h
      ·exact j4 k h
      ·subst h
       have:=j4 _ (List.getElem_mem hi)
       rw[hline]at this
       simp only[List.length_cons]at this⊢
       omega
     ·simp only
      rw[hdr,zcv hi,zdl (by omega)]
      simp only[List.append_assoc,List.cons_append,List.nil_append]
  ·have hi:i=L.length:=by
    have:¬(i:Int)<L.length:=by simpa using hge
    omega
   rw[hi,List.drop_length,List.take_length,show dropR gone t [] g=([],g) from rfl,List.append_nil]at hF
   repeat'(first|(with_reducible first|refine zaa _ _ ?_|refine zae ?_|refine zaf ?_)|rw[zad]|simp only[zY,Int.reduceEq,Int.reduceBEq,Int.reduceBNe,Nat.reduceSub,Nat.reduceEqDiff,Nat.reduceAdd,Nat.reduceMul,Nat.reduceLeDiff,Nat.reduceLT,Nat.reduceBEq,reduceCtorEq]|refine zab ?_|refine zac (fun hb=> ?_) (fun hb=> ?_)|(refine And.intro ?_ ?_;exact zI)|refine And.intro (fun hg=> ?_) (fun hg=> ?_)|exact zC|fail)
   unfold dropP
   rw[←(Prod.mk.inj hF).1,←(Prod.mk.inj hF).2]
end Go.Proofs.YtniafckaafcpbaaGreat
