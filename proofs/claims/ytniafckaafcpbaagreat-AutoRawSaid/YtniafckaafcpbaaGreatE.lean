import Derived.Test.YtniafckaafcpbaaGreatD
namespace Go.Proofs.YtniafckaafcpbaaGreat
open Go.Pk
set_option maxRecDepth 100000
set_option linter.unusedSimpArgs false
set_option linter.unusedVariables false
theorem zfq {α:Type}:∀(xs pre mid post:List α),mid.length=xs.length→fillAt pre.length xs (pre++(mid++post))=pre++(xs++post)
 |[],pre,mid,post,h=>by
  have:mid=[]:=List.eq_nil_of_length_eq_zero h
  subst this;rfl
 |x::xs,pre,m::mid,post,h=>by
  have:=zfq xs (pre++[x]) mid post (by simpa using h)
  rw[fillAt]
  simp only[List.length_append,List.length_cons,List.length_nil,Nat.zero_add,List.append_assoc,List.cons_append,List.nil_append]at this⊢
  rw[←this]
  congr 1
  simp[List.set_append]
 |x::xs,pre,[],post,h=>by simp at h
theorem zcX {α:Type} (enc:α→List D) (sz:Nat) (h:∀x,(enc x).length=sz) {l:List α} {i:Nat} (hi:i<l.length) (x:α):
  fillAt (i*sz) ((enc x).map C.d) ((l.flatMap enc).map C.d)=((l.set i x).flatMap enc).map C.d:=by
 have e1:l=l.take i++(l[i]::l.drop (i+1)):=by rw[List.getElem_cons_drop];simp
 have e2:l.set i x=l.take i++(x::l.drop (i+1)):=by rw[List.set_eq_take_append_cons_drop,if_pos hi]
 have hl:((l.take i).flatMap enc).length=i*sz:=by rw[zbK enc sz h,List.length_take];congr 1;omega
 rw[e2]
 conv=>lhs;rw[e1]
 simp only[List.flatMap_append,List.flatMap_cons,List.map_append]
 have:=zfq ((enc x).map C.d) (((l.take i).flatMap enc).map C.d) ((enc l[i]).map C.d) (((l.drop (i+1)).flatMap enc).map C.d) (by simp[h])
 rw[List.length_map,hl]at this
 exact this
theorem zbr {α:Type} (enc:α→List D) (sz:Nat) (h:∀x,(enc x).length=sz) {l:List α} {i k:Nat} (hi:i<l.length) (hk:k<sz) (v:D) (x:α) (hx:enc x=(enc l[i]).set k v):
  ((l.flatMap enc).map C.d).set (i*sz+k) (C.d v)=((l.set i x).flatMap enc).map C.d:=by
 have e1:l=l.take i++(l[i]::l.drop (i+1)):=by rw[List.getElem_cons_drop];simp
 have e2:l.set i x=l.take i++(x::l.drop (i+1)):=by rw[List.set_eq_take_append_cons_drop,if_pos hi]
 have hl:((l.take i).flatMap enc).length=i*sz:=by rw[zbK enc sz h,List.length_take];congr 1;omega
 rw[e2]
 conv=>lhs;rw[e1]
 rw[←List.map_set]
 simp only[List.flatMap_append,List.flatMap_cons]
 rw[List.set_append,if_neg (by omega),List.set_append,if_pos (by rw[h];omega),show i*sz+k - ((l.take i).flatMap enc).length=k by omega,hx]
theorem zh1 {α:Type} (enc:α→List D) (sz:Nat) (h:∀x,(enc x).length=sz) {l:List α} {k:Nat} (hk:k≤l.length) (x:α):
  (l.take k++x::l.drop k).flatMap enc=(l.flatMap enc).take (k*sz)++(enc x++(l.flatMap enc).drop (k*sz)):=by
 rw[zbU enc sz h hk,zeP enc sz h hk,List.flatMap_append,List.flatMap_cons]
theorem zf4 {α:Type} {l:List α} {k:Nat} (hk:k≤l.length) (x:α):(l.take k++x::l.drop k).length=l.length+1:=by
 rw[List.length_append,List.length_take,List.length_cons,List.length_drop];omega
theorem zgS {α:Type} (enc:α→List D) (sz:Nat) (h:∀x,(enc x).length=sz) {l:List α} {k:Nat} (hk:k<l.length):
  (l.eraseIdx k).flatMap enc=(l.flatMap enc).take (k*sz)++(l.flatMap enc).drop ((k+1)*sz):=by
 rw[zbU enc sz h (by omega),zeP enc sz h hk,List.eraseIdx_eq_take_drop_succ,List.flatMap_append]
theorem zgT {α:Type} {l:List α} {k:Nat} (hk:k<l.length):(l.eraseIdx k).length=l.length - 1:=by rw[List.length_eraseIdx,if_pos hk]
theorem zcv {α:Type} {l:List α} {i:Nat} (h:i<l.length) (x:α):(l.set i x).take (i+1)=l.take i++[x]:=by
 rw[List.set_eq_take_append_cons_drop,if_pos h]
 have:(l.take i).length=i:=by rw[List.length_take];omega
 rw[List.take_append,this,List.take_of_length_le (by omega),show i+1 - i=1 by omega]
 rfl
theorem zdl {α:Type} {l:List α} {i j:Nat} (h:i<j) (x:α):(l.set i x).drop j=l.drop j:=by
 apply List.ext_getElem?
 intro k
 rw[List.getElem?_drop,List.getElem?_drop,List.getElem?_set_ne (by omega)]
theorem zcw {α:Type} (p:α→Bool):∀(l:List α) (i:Nat),(∀x∈l,p x=false)∧idxF p l i= -1∨∃k,∃h:k<l.length,idxF p l i=((i+k:Nat):Int)∧p l[k]=true∧∀x∈l.take k,p x=false
 |[],i=> .inl ⟨fun x hx=>(List.not_mem_nil hx).elim,rfl⟩
 |x::l,i=>by
  rw[idxF]
  by_cases hx:p x=true
  ·rw[if_pos hx]
   exact .inr ⟨0,by simp,rfl,by simpa using hx,fun y hy=>by simp at hy⟩
  ·rw[if_neg hx]
   have hx':p x=false:=by simpa using hx
   rcases zcw p l (i+1)with⟨h1,h2⟩|⟨k,hk,h1,h2,h3⟩
   ·exact .inl ⟨fun y hy=>(List.mem_cons.1 hy).elim (fun e=>e▸hx') (fun e=>h1 y e),by simpa using h2⟩
   ·refine .inr ⟨k+1,by simpa using hk, ?_,by simpa using h2,fun y hy=> ?_⟩
    ·have:((i:Int)+1)=((i+1:Nat):Int):=rfl
     rw[this,h1];congr 1;omega
    ·rw[List.take_succ_cons]at hy
     exact(List.mem_cons.1 hy).elim (fun e=>e▸hx') (fun e=>h3 y e)
set_option maxHeartbeats 2000000 in
theorem zkf (l:List Sess) (hl:l.length<2^40) (p:Sess→Bool) (f:Nat) (caps:List C) (hc2:∀r,lendC.lendCs r caps=some caps) (hc3:∀r,lendAs r (caps.map AV.one)=some (caps.map fun c=> .f (.one c)))
  (hcur:∀Z r,curCs Z r caps=true) (hcan:∀Z,canCs Z caps=caps)
  (hp:∀x∈l,CallOK Tryz.prog f (.f (sessAV x)::caps.map fun c=> .f (.one c)) (fun r o=>r=[rb (p x)]∧o=[])):
  CallOK Tryz.prog 66 [.row 3 l.length (sessE l), .f (.one (.clos f caps))]
   (fun r o=>r=[.one (.own 3 (l.filter fun x=> !p x).length (sessE (l.filter fun x=> !p x)) true)]∧o=[[]]):=by
 refine CallOK.wk ?_ (by rw[zax];omega)
 refine zak zaA mixed (T:=Ty) (n:=42) Tryz.func66 (c:=Tryz.f66.body.getD .skip) rfl Tryz.results66 Tryz.ntmps66 Tryz.call66 ?_
 simp only[Tryz.f66,Option.getD]
 have hix:=zfr l (by omega) p f caps (hc3 []) hp
 have hfc:∀Z r xs ys,fgc Z r (.one (.clos f caps)::xs) (.one (.clos f caps)::ys)=fgc Z r xs ys:=fun Z r xs ys=>ziy (by simp[curA,curC,hcur]) (by simp[canA,canC,hcan])
 rcases zcw p l 0 with⟨h1,h2⟩|⟨k,hk,h1,h2,h3⟩
 ·have hfil:l.filter (fun x=> !p x)=l:=List.filter_eq_self.2 fun x hx=>by rw[h1 x hx];rfl
  rw[hfil]
  rw[show((0:Nat):Int)=0 from rfl]at h2
  rw[h2]at hix
  repeat'(first|(with_reducible first|refine zaa _ _ ?_|refine zae ?_|refine zaf ?_)|rw[zad]|simp only[hc2,beq_self_eq_true,zY,Int.reduceEq,Int.reduceBEq,Int.reduceBNe,Nat.reduceSub,Nat.reduceEqDiff,Nat.reduceAdd,Nat.reduceMul,Nat.reduceLeDiff,Nat.reduceLT,Nat.reduceBEq,reduceCtorEq]|((first|((try refine zai ?_);apply zaj)|(apply zah;intro _));(solve|exact(hix)|(refine CallOK.le (hix) ?_;exact zM)|fail);try case hn=>rfl)|refine zab ?_|refine zac (fun hb=> ?_) (fun hb=> ?_)|(refine And.intro ?_ ?_;exact zI)|refine And.intro (fun hg=> ?_) (fun hg=> ?_)|exact zC|fail)
  exact⟨[],_,by rw[List.append_nil], .inl trivial⟩
 ·rw[show((0:Nat):Int)=0 from rfl,Nat.zero_add]at h1
  rw[h1]at hix
  have hne:((k:Int)== -1)=false:=by simp
  have hw0:=zat hk (by omega)
  repeat'(first|(with_reducible first|refine zaa _ _ ?_|refine zae ?_|refine zaf ?_)|rw[zad]|simp only[hc2,hne,hw0,zY,Int.reduceEq,Int.reduceBEq,Int.reduceBNe,Nat.reduceSub,Nat.reduceEqDiff,Nat.reduceAdd,Nat.reduceMul,Nat.reduceLeDiff,Nat.reduceLT,Nat.reduceBEq,reduceCtorEq]|((first|((try refine zai ?_);apply zaj)|(apply zah;intro _));(solve|exact(hix)|(refine CallOK.le (hix) ?_;exact zM)|fail);try case hn=>rfl)|refine zab ?_|refine zac (fun hb=> ?_) (fun hb=> ?_)|(refine And.intro ?_ ?_;exact zI)|refine And.intro (fun hg=> ?_) (fun hg=> ?_)|exact zC|fail)
  refine zau (τ:=Nat×Nat×List Sess) (fun t=>⟨[.one (.own ⟨0,1,0⟩ 0 l.length), .one (.clos f caps),dd,dd,dd,ai t.1,ai t.2.1,dd,dd,dd,dd,dd,dd,dd,dd,dd,dd,dd,dd,dd,dd,dd,dd,dd,dd,dd,dd,dd,dd,dd,dd,dd,dd,dd,dd,dd,dd,dd,dd,dd,dd,dd],[(0,{next:=1,l:=[none,some {e:=0,var:=false,fz:=false,bor:=true,sz:=3,cells:=(sessE t.2.2).map C.d}]}),(7,⟨2,[]⟩)]⟩)
   (fun t=>t.1<t.2.1∧t.2.1≤l.length∧t.2.2.length=l.length∧t.2.2.take t.1=(l.take t.2.1).filter (fun x=> !p x)∧t.2.2.drop t.2.1=l.drop t.2.1) (fun _=>()) (fun t=>l.length - t.2.1) (k,k+1,l)
   (Gh.canon [0] [7] [0] (by simp only[hfc,zan,zaz,zao,zaq,zar,zas,List.set_cons_zero,List.set_cons_succ,and_true,true_and,Int.natCast_zero,Int.cast_ofNat_Int,D.v.injEq,Value.int.injEq];try(repeat'(first|rfl|omega|with_reducible apply And.intro))) rfl rfl) ⟨Nat.lt_succ_self _,hk,rfl, ?_,rfl⟩ ?_
  ·rw[List.take_add_one,List.filter_append,List.getElem?_eq_getElem hk]
   simp only[Option.toList,List.filter_cons,h2,List.filter_nil]
   simp only[Bool.not_true,Bool.false_eq_true,if_false,List.append_nil]
   exact(List.filter_eq_self.2 fun x hx=>by rw[h3 x hx];rfl).symm
  intro⟨i,j,L⟩ ⟨j1,j2,j3,j4,j5⟩ hF K hK
  simp only at j1 j2 j3 j4 j5 hF hK⊢
  repeat(first|with_reducible refine zaa _ _ ?_|with_reducible refine And.imp_right (zaa _ _) ?_|with_reducible refine And.imp_right (And.imp_right (zaa _ _)) ?_|with_reducible refine And.imp_right (And.imp_right (And.imp_right (zaa _ _))) ?_|rw[zad]|simp only[zB,Nat.reduceSub,Nat.reduceEqDiff,Nat.reduceAdd,Nat.reduceMul,Nat.reduceLeDiff,Nat.reduceLT,Nat.reduceBEq,reduceCtorEq])
  refine zac (fun hlt=> ?_) (fun hge=> ?_)
  ·have hj:j<l.length:=by simpa using hlt
   have hjL:j<L.length:=by omega
   have hLj:L[j]=l[j]:=by
    have e1:=List.drop_eq_getElem_cons hjL
    rw[j5,List.drop_eq_getElem_cons hj]at e1
    exact(List.cons.inj e1).1.symm
   have hat:=zaV hjL
   rw[hLj]at hat
   simp only[List.cons_append,List.nil_append]at hat
   have hcp:=hp _ (List.getElem_mem hj)
   have hwj:=zat hj (by omega)
   have hwi:=zat (show i<l.length by omega) (by omega)
   have hset:=zcX Sess.enc 3 (fun _=>rfl) (show i<L.length by omega) l[j]
   simp only[fillAt,List.map_cons,List.map_nil,Nat.mul_one]at hset
   have htk:(l.take (j+1)).filter (fun x=> !p x)=(l.take j).filter (fun x=> !p x)++(if p l[j]=true then []else [l[j]]):=by
    rw[List.take_add_one,List.filter_append,List.getElem?_eq_getElem hj]
    simp only[Option.toList,List.filter_cons,List.filter_nil]
    cases p l[j]<;>simp
   cases hpj:p l[j]
   ·rw[hpj]at hcp htk
    repeat'(first|(with_reducible first|refine zaa _ _ ?_|refine zae ?_|refine zaf ?_)|rw[zad]|simp only[hc3,←List.map_drop,hat,List.map_cons,zax,j3,Bool.not_false,hset,zY,Int.reduceEq,Int.reduceBEq,Int.reduceBNe,Nat.reduceSub,Nat.reduceEqDiff,Nat.reduceAdd,Nat.reduceMul,Nat.reduceLeDiff,Nat.reduceLT,Nat.reduceBEq,reduceCtorEq]|((first|((try refine zai ?_);apply zaj)|(apply zah;intro _));(solve|exact(hcp)|(refine CallOK.le (hcp) ?_;exact zM)|fail);try case hn=>rfl)|refine zab ?_|refine zac (fun hb=> ?_) (fun hb=> ?_)|(refine And.intro ?_ ?_;exact zI)|refine And.intro (fun hg=> ?_) (fun hg=> ?_)|exact zC|fail)
    refine hK _ (i+1,j+1,L.set i l[j]) (Gh.canon [0] [] [0] (by simp only[hfc,hwi,hwj,zan,zaz,zao,zaq,zar,zas,List.set_cons_zero,List.set_cons_succ,and_true,true_and,Int.natCast_zero,Int.cast_ofNat_Int,D.v.injEq,Value.int.injEq];try(repeat'(first|rfl|omega|with_reducible apply And.intro))) rfl rfl) ⟨by simp only;omega,hj,by simp only[List.length_set];exact j3, ?_, ?_⟩ trivial (by simp only;omega)
    ·simp only
     rw[zcv (by omega),htk,j4];rfl
    ·simp only
     rw[zdl (by omega),←List.drop_drop,j5,List.drop_drop]
   ·rw[hpj]at hcp htk
    repeat'(first|(with_reducible first|refine zaa _ _ ?_|refine zae ?_|refine zaf ?_)|rw[zad]|simp only[hc3,←List.map_drop,hat,List.map_cons,zax,j3,Bool.not_true,zY,Int.reduceEq,Int.reduceBEq,Int.reduceBNe,Nat.reduceSub,Nat.reduceEqDiff,Nat.reduceAdd,Nat.reduceMul,Nat.reduceLeDiff,Nat.reduceLT,Nat.reduceBEq,reduceCtorEq]|((first|((try refine zai ?_);apply zaj)|(apply zah;intro _));(solve|exact(hcp)|(refine CallOK.le (hcp) ?_;exact zM)|fail);try case hn=>rfl)|refine zab ?_|refine zac (fun hb=> ?_) (fun hb=> ?_)|(refine And.intro ?_ ?_;exact zI)|refine And.intro (fun hg=> ?_) (fun hg=> ?_)|exact zC|fail)
    refine hK _ (i,j+1,L) (Gh.canon [0] [] [0] (by simp only[hfc,hwj,zan,zaz,zao,zaq,zar,zas,List.set_cons_zero,List.set_cons_succ,and_true,true_and,Int.natCast_zero,Int.cast_ofNat_Int,D.v.injEq,Value.int.injEq];try(repeat'(first|rfl|omega|with_reducible apply And.intro))) rfl rfl) ⟨by simp only;omega,hj,j3, ?_, ?_⟩ trivial (by simp only;omega)
    ·simp only
     rw[htk,j4];simp
    ·simp only
     rw[←List.drop_drop,j5,List.drop_drop]
  ·have hj:j=l.length:=by
    have:¬(j:Int)<l.length:=by simpa using hge
    omega
   subst hj
   rw[List.take_length]at j4
   obtain⟨fl,hfl⟩:∃fl,fl=l.filter (fun x=> !p x):=⟨_,rfl⟩
   rw[←hfl]at j4
   have hfll:fl.length=i:=by rw[←j4,List.length_take];omega
   obtain⟨Z,hZ⟩:∃Z,Z=zeroD [.int .i64 0, .int .i64 0, .int .i64 0] (l.length - i):=⟨_,rfl⟩
   have hZl:Z.length=(l.length - i)*3:=by rw[hZ,zbC];rfl
   have etk:(sessE L).take (i*3)=sessE fl:=by
    have:=zbU Sess.enc 3 (fun _=>rfl) (show i≤L.length by omega)
    rw[←j4];exact this
   have hLl:(sessE L).length=l.length*3:=by rw[zax,j3]
   have e2:List.take (i*3) (List.map C.d (sessE L))++List.map C.d Z++List.drop (i*3+Z.length) (List.map C.d (sessE L))=List.map C.d (sessE fl++Z):=by
    rw[←List.map_take,etk,List.drop_of_length_le (by rw[List.length_map];omega)];simp
   rw[←hfl,hfll]
   repeat'(first|(with_reducible first|refine zaa _ _ ?_|refine zae ?_|refine zaf ?_)|rw[zad]|simp only[j3,zax,←hZ,e2,zY,Int.reduceEq,Int.reduceBEq,Int.reduceBNe,Nat.reduceSub,Nat.reduceEqDiff,Nat.reduceAdd,Nat.reduceMul,Nat.reduceLeDiff,Nat.reduceLT,Nat.reduceBEq,reduceCtorEq]|refine zab ?_|refine zac (fun hb=> ?_) (fun hb=> ?_)|(refine And.intro ?_ ?_;exact zI)|refine And.intro (fun hg=> ?_) (fun hg=> ?_)|exact zC|fail)
   exact⟨Z,_,rfl, .inl trivial⟩
set_option maxHeartbeats 2000000 in
theorem zlN (l:List Int) (hl:l.length<2^40) (p:Int→Bool) (f:Nat) (caps:List C) (hc2:∀r,lendC.lendCs r caps=some caps) (hc3:∀r,lendAs r (caps.map AV.one)=some (caps.map fun c=> .f (.one c)))
  (hcur:∀Z r,curCs Z r caps=true) (hcan:∀Z,canCs Z caps=caps)
  (hp:∀x∈l,CallOK Tryz.prog f (.f (intAV x)::caps.map fun c=> .f (.one c)) (fun r o=>r=[rb (p x)]∧o=[])):
  CallOK Tryz.prog 129 [.row 1 l.length (intsE l), .f (.one (.clos f caps))]
   (fun r o=>r=[.one (.own 1 (l.filter fun x=> !p x).length (intsE (l.filter fun x=> !p x)) true)]∧o=[[]]):=by
 refine CallOK.wk ?_ (by rw[zaw];omega)
 refine zak zaA mixed (T:=Ty) (n:=42) Tryz.func129 (c:=Tryz.f129.body.getD .skip) rfl Tryz.results129 Tryz.ntmps129 Tryz.call129 ?_
 simp only[Tryz.f129,Option.getD]
 have hix:=zkg l (by omega) p f caps (hc3 []) hp
 have hfc:∀Z r xs ys,fgc Z r (.one (.clos f caps)::xs) (.one (.clos f caps)::ys)=fgc Z r xs ys:=fun Z r xs ys=>ziy (by simp[curA,curC,hcur]) (by simp[canA,canC,hcan])
 rcases zcw p l 0 with⟨h1,h2⟩|⟨k,hk,h1,h2,h3⟩
 ·have hfil:l.filter (fun x=> !p x)=l:=List.filter_eq_self.2 fun x hx=>by rw[h1 x hx];rfl
  rw[hfil]
  rw[show((0:Nat):Int)=0 from rfl]at h2
  rw[h2]at hix
  repeat'(first|(with_reducible first|refine zaa _ _ ?_|refine zae ?_|refine zaf ?_)|rw[zad]|simp only[hc2,beq_self_eq_true,zY,Int.reduceEq,Int.reduceBEq,Int.reduceBNe,Nat.reduceSub,Nat.reduceEqDiff,Nat.reduceAdd,Nat.reduceMul,Nat.reduceLeDiff,Nat.reduceLT,Nat.reduceBEq,reduceCtorEq]|((first|((try refine zai ?_);apply zaj)|(apply zah;intro _));(solve|exact(hix)|(refine CallOK.le (hix) ?_;exact zM)|fail);try case hn=>rfl)|refine zab ?_|refine zac (fun hb=> ?_) (fun hb=> ?_)|(refine And.intro ?_ ?_;exact zI)|refine And.intro (fun hg=> ?_) (fun hg=> ?_)|exact zC|fail)
  exact⟨[],_,by rw[List.append_nil], .inl trivial⟩
 ·rw[show((0:Nat):Int)=0 from rfl,Nat.zero_add]at h1
  rw[h1]at hix
  have hne:((k:Int)== -1)=false:=by simp
  have hw0:=zat hk (by omega)
  repeat'(first|(with_reducible first|refine zaa _ _ ?_|refine zae ?_|refine zaf ?_)|rw[zad]|simp only[hc2,hne,hw0,zY,Int.reduceEq,Int.reduceBEq,Int.reduceBNe,Nat.reduceSub,Nat.reduceEqDiff,Nat.reduceAdd,Nat.reduceMul,Nat.reduceLeDiff,Nat.reduceLT,Nat.reduceBEq,reduceCtorEq]|((first|((try refine zai ?_);apply zaj)|(apply zah;intro _));(solve|exact(hix)|(refine CallOK.le (hix) ?_;exact zM)|fail);try case hn=>rfl)|refine zab ?_|refine zac (fun hb=> ?_) (fun hb=> ?_)|(refine And.intro ?_ ?_;exact zI)|refine And.intro (fun hg=> ?_) (fun hg=> ?_)|exact zC|fail)
  refine zau (τ:=Nat×Nat×List Int) (fun t=>⟨[.one (.own ⟨0,1,0⟩ 0 l.length), .one (.clos f caps),dd,dd,dd,ai t.1,ai t.2.1,dd,dd,dd,dd,dd,dd,dd,dd,dd,dd,dd,dd,dd,dd,dd,dd,dd,dd,dd,dd,dd,dd,dd,dd,dd,dd,dd,dd,dd,dd,dd,dd,dd,dd,dd],[(0,{next:=1,l:=[none,some {e:=0,var:=false,fz:=false,bor:=true,sz:=1,cells:=(intsE t.2.2).map C.d}]})]⟩)
   (fun t=>t.1<t.2.1∧t.2.1≤l.length∧t.2.2.length=l.length∧t.2.2.take t.1=(l.take t.2.1).filter (fun x=> !p x)∧t.2.2.drop t.2.1=l.drop t.2.1) (fun _=>()) (fun t=>l.length - t.2.1) (k,k+1,l)
   (Gh.canon [0] [] [0] (by simp only[hfc,zan,zaz,zao,zaq,zar,zas,List.set_cons_zero,List.set_cons_succ,and_true,true_and,Int.natCast_zero,Int.cast_ofNat_Int,D.v.injEq,Value.int.injEq];try(repeat'(first|rfl|omega|with_reducible apply And.intro))) rfl rfl) ⟨Nat.lt_succ_self _,hk,rfl, ?_,rfl⟩ ?_
  ·rw[List.take_add_one,List.filter_append,List.getElem?_eq_getElem hk]
   simp only[Option.toList,List.filter_cons,h2,List.filter_nil]
   simp only[Bool.not_true,Bool.false_eq_true,if_false,List.append_nil]
   exact(List.filter_eq_self.2 fun x hx=>by rw[h3 x hx];rfl).symm
  intro⟨i,j,L⟩ ⟨j1,j2,j3,j4,j5⟩ hF K hK
  simp only at j1 j2 j3 j4 j5 hF hK⊢
  repeat(first|with_reducible refine zaa _ _ ?_|with_reducible refine And.imp_right (zaa _ _) ?_|with_reducible refine And.imp_right (And.imp_right (zaa _ _)) ?_|with_reducible refine And.imp_right (And.imp_right (And.imp_right (zaa _ _))) ?_|rw[zad]|simp only[zB,Nat.reduceSub,Nat.reduceEqDiff,Nat.reduceAdd,Nat.reduceMul,Nat.reduceLeDiff,Nat.reduceLT,Nat.reduceBEq,reduceCtorEq])
  refine zac (fun hlt=> ?_) (fun hge=> ?_)
  ·have hj:j<l.length:=by simpa using hlt
   have hjL:j<L.length:=by omega
   have hLj:L[j]=l[j]:=by
    have e1:=List.drop_eq_getElem_cons hjL
    rw[j5,List.drop_eq_getElem_cons hj]at e1
    exact(List.cons.inj e1).1.symm
   have hat:=zbo hjL
   rw[hLj]at hat
   simp only[List.cons_append,List.nil_append]at hat
   have hcp:=hp _ (List.getElem_mem hj)
   have hwj:=zat hj (by omega)
   have hwi:=zat (show i<l.length by omega) (by omega)
   have hset:=zcX (fun n=>[iD n]) 1 (fun _=>rfl) (show i<L.length by omega) l[j]
   simp only[fillAt,List.map_cons,List.map_nil,Nat.mul_one]at hset
   have htk:(l.take (j+1)).filter (fun x=> !p x)=(l.take j).filter (fun x=> !p x)++(if p l[j]=true then []else [l[j]]):=by
    rw[List.take_add_one,List.filter_append,List.getElem?_eq_getElem hj]
    simp only[Option.toList,List.filter_cons,List.filter_nil]
    cases p l[j]<;>simp
   cases hpj:p l[j]
   ·rw[hpj]at hcp htk
    repeat'(first|(with_reducible first|refine zaa _ _ ?_|refine zae ?_|refine zaf ?_)|rw[zad]|simp only[hc3,←List.map_drop,hat,List.map_cons,zaw,j3,Bool.not_false,hset,zY,Int.reduceEq,Int.reduceBEq,Int.reduceBNe,Nat.reduceSub,Nat.reduceEqDiff,Nat.reduceAdd,Nat.reduceMul,Nat.reduceLeDiff,Nat.reduceLT,Nat.reduceBEq,reduceCtorEq]|((first|((try refine zai ?_);apply zaj)|(apply zah;intro _));(solve|exact(hcp)|(refine CallOK.le (hcp) ?_;exact zM)|fail);try case hn=>rfl)|refine zab ?_|refine zac (fun hb=> ?_) (fun hb=> ?_)|(refine And.intro ?_ ?_;exact zI)|refine And.intro (fun hg=> ?_) (fun hg=> ?_)|exact zC|fail)
    refine hK _ (i+1,j+1,L.set i l[j]) (Gh.canon [0] [] [0] (by simp only[hfc,hwi,hwj,zan,zaz,zao,zaq,zar,zas,List.set_cons_zero,List.set_cons_succ,and_true,true_and,Int.natCast_zero,Int.cast_ofNat_Int,D.v.injEq,Value.int.injEq];try(repeat'(first|rfl|omega|with_reducible apply And.intro))) rfl rfl) ⟨by simp only;omega,hj,by simp only[List.length_set];exact j3, ?_, ?_⟩ trivial (by simp only;omega)
    ·simp only
     rw[zcv (by omega),htk,j4];rfl
    ·simp only
     rw[zdl (by omega),←List.drop_drop,j5,List.drop_drop]
   ·rw[hpj]at hcp htk
    repeat'(first|(with_reducible first|refine zaa _ _ ?_|refine zae ?_|refine zaf ?_)|rw[zad]|simp only[hc3,←List.map_drop,hat,List.map_cons,zaw,j3,Bool.not_true,zY,Int.reduceEq,Int.reduceBEq,Int.reduceBNe,Nat.reduceSub,Nat.reduceEqDiff,Nat.reduceAdd,Nat.reduceMul,Nat.reduceLeDiff,Nat.reduceLT,Nat.reduceBEq,reduceCtorEq]|((first|((try refine zai ?_);apply zaj)|(apply zah;intro _));(solve|exact(hcp)|(refine CallOK.le (hcp) ?_;exact zM)|fail);try case hn=>rfl)|refine zab ?_|refine zac (fun hb=> ?_) (fun hb=> ?_)|(refine And.intro ?_ ?_;exact zI)|refine And.intro (fun hg=> ?_) (fun hg=> ?_)|exact zC|fail)
    refine hK _ (i,j+1,L) (Gh.canon [0] [] [0] (by simp only[hfc,hwj,zan,zaz,zao,zaq,zar,zas,List.set_cons_zero,List.set_cons_succ,and_true,true_and,Int.natCast_zero,Int.cast_ofNat_Int,D.v.injEq,Value.int.injEq];try(repeat'(first|rfl|omega|with_reducible apply And.intro))) rfl rfl) ⟨by simp only;omega,hj,j3, ?_, ?_⟩ trivial (by simp only;omega)
    ·simp only
     rw[htk,j4];simp
    ·simp only
     rw[←List.drop_drop,j5,List.drop_drop]
  ·have hj:j=l.length:=by
    have:¬(j:Int)<l.length:=by simpa using hge
    omega
   subst hj
   rw[List.take_length]at j4
   obtain⟨fl,hfl⟩:∃fl,fl=l.filter (fun x=> !p x):=⟨_,rfl⟩
   rw[←hfl]at j4
   have hfll:fl.length=i:=by rw[←j4,List.length_take];omega
   obtain⟨Z,hZ⟩:∃Z,Z=zeroD [.int .i64 0] (l.length - i):=⟨_,rfl⟩
   have hZl:Z.length=(l.length - i):=by rw[hZ,zbC];exact Nat.mul_one _;done
   have etk:(intsE L).take (i)=intsE fl:=by
    have:=zbU (fun n=>[iD n]) 1 (fun _=>rfl) (show i≤L.length by omega)
    rw[←j4];rw[Nat.mul_one]at this;exact this
   have hLl:(intsE L).length=l.length:=by rw[zaw,j3]
   have e2:List.take (i) (List.map C.d (intsE L))++List.map C.d Z++List.drop (i+Z.length) (List.map C.d (intsE L))=List.map C.d (intsE fl++Z):=by
    rw[←List.map_take,etk,List.drop_of_length_le (by rw[List.length_map];omega)];simp
   rw[←hfl,hfll]
   repeat'(first|(with_reducible first|refine zaa _ _ ?_|refine zae ?_|refine zaf ?_)|rw[zad]|simp only[j3,zaw,←hZ,e2,zY,Int.reduceEq,Int.reduceBEq,Int.reduceBNe,Nat.reduceSub,Nat.reduceEqDiff,Nat.reduceAdd,Nat.reduceMul,Nat.reduceLeDiff,Nat.reduceLT,Nat.reduceBEq,reduceCtorEq]|refine zab ?_|refine zac (fun hb=> ?_) (fun hb=> ?_)|(refine And.intro ?_ ?_;exact zI)|refine And.intro (fun hg=> ?_) (fun hg=> ?_)|exact zC|fail)
   exact⟨Z,_,rfl, .inl trivial⟩
end Go.Proofs.YtniafckaafcpbaaGreat
