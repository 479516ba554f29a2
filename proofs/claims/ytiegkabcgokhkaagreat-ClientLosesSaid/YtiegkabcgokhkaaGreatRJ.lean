import Derived.Test.YtiegkabcgokhkaaGreatRI
namespace Go.Proofs.YtiegkabcgokhkaaGreat
open Go.Pk
set_option maxRecDepth 100000
set_option linter.unusedSimpArgs false
set_option linter.unusedVariables false
theorem ziU {l:List Grant} {i:Nat} (hi:i<l.length):grantsI (l.take (i+1))=grantsI (l.take i)++(textI l[i].name++numB l[i].token):=by
 rw[List.take_succ_eq_append_getElem hi,grantsI,List.flatMap_append];simp[grantsI,grantI]
def headI (r:Reply):List Int:=[r.code]++(numB r.session++[r.ahead,(r.held.length:Int)])
def repB (r:Reply) (i:Nat):List Int:=headI r++grantsI (r.held.take i)
theorem zdJ {r:Reply} {i:Nat} (hi:i<r.held.length):repB r (i+1)=(repB r i++textI r.held[i].name)++numB r.held[i].token:=by
 rw[repB,ziU hi,repB];simp
theorem zdK {r:Reply}:repB r 0=headI r:=by simp[repB,grantsI]
theorem ziv {r:Reply}:repB r r.held.length=replyI r:=by simp[repB,headI,replyI]
theorem zcD (r:Reply):(headI r).length=11:=by simp[headI,zbb]
set_option maxHeartbeats 1000000 in
theorem zhC (r:Reply) (h:replyB r=true):CallOK Tryz.prog 106 [.f (.agg r.lent)] (fun x o=>x=[.one (.own 1 (replyI r).length (bytesE (replyI r)) false),ri 0]∧o=[]):=by
 obtain⟨f1,f2,f3,f4,f5⟩:=za2 h
 have hgr:=za4 h
 refine zal zat mixed (T:=Ty) (n:=63) Tryz.func106 (c:=Tryz.f106.body.getD .skip) rfl Tryz.results106 Tryz.ntmps106 Tryz.call106 ?_
 simp only[Tryz.f106,Option.getD]
 have hmy:=zch r ⟨by omega,fun g hg=>by have:=(hgr g hg).1;omega⟩
 rw[h]at hmy
 have hpn:=zcB r.session (by omega)
 have w1:IntKind.u8.wrap r.code=r.code:=zdc (by omega) (by omega)
 have w2:IntKind.u8.wrap r.ahead=r.ahead:=zdc (by omega) (by omega)
 have w3:IntKind.u8.wrap (r.held.length:Int)=r.held.length:=zdc (by omega) (by omega)
 have hcc:CallOK Tryz.prog 105 [.f (al 3 [.sl 1 (bytesE [r.code]), .sl 8 (bytesE (numB r.session)), .sl 2 (bytesE [r.ahead,(r.held.length:Int)])])] (fun x o=>x=[.one (.own 1 11 (bytesE (headI r)) false)]∧o=[]):=by
  have hc:=zdF [bytesE [r.code],bytesE (numB r.session),bytesE [r.ahead,(r.held.length:Int)]] (by simp) (fun l hl=>by
   simp only[List.mem_cons,List.not_mem_nil,or_false]at hl
   rcases hl with rfl|rfl|rfl
   ·simp
   ·rw[za8];decide
   ·simp)
  rw[show [bytesE [r.code],bytesE (numB r.session),bytesE [r.ahead,(r.held.length:Int)]].flatten=bytesE (headI r) from by simp[headI,bytesE]]at hc
  rw[show(bytesE (headI r)).length=11 from by rw[List.length_map,zcD]]at hc
  exact hc
 have t1:(bytesE (numB r.session)).take 8=bytesE (numB r.session):=List.take_of_length_le (by rw[za8];decide)
 have t2:toDs (sub 0 2 1 [C.d (uD r.ahead),C.d (uD (r.held.length:Int))])=some [uD r.ahead,uD (r.held.length:Int)]:=rfl
 repeat'(first|(with_reducible first|refine zaa _ _ ?_|refine zad ?_|refine zae ?_)|rw[zaf]|simp only[t1,t2,w1,w2,w3,zY,Int.reduceEq,Int.reduceBEq,Int.reduceBNe,Nat.reduceSub,Nat.reduceEqDiff,Nat.reduceAdd,Nat.reduceMul,Nat.reduceLeDiff,Nat.reduceLT,Nat.reduceBEq,reduceCtorEq]|((first|((try refine zah ?_);apply zak)|(apply zai;intro _));(solve|exact(hmy)|exact(hpn)|exact(hcc)|(refine CallOK.le (hmy) ?_;exact zM)|(refine CallOK.le (hpn) ?_;exact zM)|(refine CallOK.le (hcc) ?_;exact zM)|fail);try case hn=>rfl)|refine zab ?_|refine zac (fun hb=> ?_) (fun hb=> ?_)|(refine And.intro ?_ ?_;exact zI)|refine And.intro (fun hg=> ?_) (fun hg=> ?_)|exact zC|fail)
 refine zaV (τ:=Nat) (fun i=>⟨[dd, .one (.ptr ⟨1,0,1⟩ 0),dd,dd,dd,dd, .one (.own ⟨6,1,1⟩ 0 (repB r i).length),dd,dd,dd,dd,dd,dd,dd,dd,dd,dd,dd,dd,dd,dd,dd,dd,dd,dd,dd,dd,dd,dd,dd,dd,dd,dd,dd,dd,dd,dd,dd,al r.held.length (grantsE r.held),ai r.held.length,ai i,dd,dd,dd,dd,dd,dd,dd,dd,dd,dd,dd,dd,dd,dd,dd,dd,dd,dd,dd,dd,dd,dd],[(1,{next:=2,l:=[some {e:=1,var:=true,fz:=false,sz:=0,cells:=[di r.code,di r.session,di r.ahead, .lent r.held.length (grantsE r.held)]},none,none,none,none]}),(19,⟨2,[]⟩),(4,⟨2,[]⟩),(25,⟨2,[]⟩),(34,⟨2,[]⟩),(35,⟨2,[]⟩),(36,⟨2,[]⟩),(6,{next:=2,l:=[none,some {e:=1,var:=false,fz:=false,sz:=1,cells:=(bytesE (repB r i)).map C.d}]}),(8,⟨2,[]⟩),(9,⟨2,[]⟩),(11,⟨2,[]⟩),(47,⟨2,[]⟩),(53,⟨2,[]⟩),(58,⟨2,[]⟩),(60,⟨2,[]⟩)]⟩)
  (fun i=>i≤r.held.length) (fun _=>()) (fun i=>r.held.length - i) 0
  (Gh.canon [1,6] [8,9,11,47,53,58,60] [] (by simp only[zdK,zcD,zaq,zaE,zar,zaw,zax,zay,List.set_cons_zero,List.set_cons_succ,and_true,true_and,Int.natCast_zero,Int.cast_ofNat_Int,D.v.injEq,Value.int.injEq];try(repeat'(first|rfl|omega|with_reducible apply And.intro))) rfl (by rw[zdK];rfl)) (Nat.zero_le _) ?_
 intro i hi0 hF K hK
 repeat(first|with_reducible refine zaa _ _ ?_|with_reducible refine And.imp_right (zaa _ _) ?_|with_reducible refine And.imp_right (And.imp_right (zaa _ _)) ?_|with_reducible refine And.imp_right (And.imp_right (And.imp_right (zaa _ _))) ?_|rw[zaf]|simp only[zB,Nat.reduceSub,Nat.reduceEqDiff,Nat.reduceAdd,Nat.reduceMul,Nat.reduceLeDiff,Nat.reduceLT,Nat.reduceBEq,reduceCtorEq])
 refine zac (fun hlt=> ?_) (fun hge=> ?_)
 ·have hi:i<r.held.length:=by simpa using hlt
  have hat:=zaP hi
  have hw:=za3 hi (by omega)
  have hg:=hgr _ (List.getElem_mem hi)
  have hpt:=zfw r.held[i].name (by omega)
  have hpm:=zcB r.held[i].token hg.2
  have hlb:(repB r i).length≤11+4*21:=by
   rw[repB,List.length_append,zcD]
   have:=zcg (l:=r.held.take i) (k:=12) fun g hx=>(hgr g (List.mem_of_mem_take hx)).1
   have:(r.held.take i).length≤4:=by rw[List.length_take];omega
   omega
  have hle:((repB r i).length+(1+r.held[i].name.size)≤2^47)=True:=eq_true (by omega)
  have hle2:((repB r i).length+(1+r.held[i].name.size)+8≤2^47)=True:=eq_true (by omega)
  have k1:(textB r.held[i].name).take (1+r.held[i].name.size)=textB r.held[i].name:=List.take_of_length_le (by rw[zbM];exact Nat.le_refl _)
  have k2:(bytesE (numB r.held[i].token)).take 8=bytesE (numB r.held[i].token):=List.take_of_length_le (by rw[za8];decide)
  have k3:(bytesE (repB r i)).take (repB r i).length=bytesE (repB r i):=List.take_of_length_le (by rw[List.length_map];exact Nat.le_refl _)
  have k4:(bytesE (repB r i)++textB r.held[i].name).take ((repB r i).length+(1+r.held[i].name.size))=bytesE (repB r i)++textB r.held[i].name:=List.take_of_length_le (by rw[List.length_append,List.length_map,zbM];exact Nat.le_refl _)
  have hsl:(repB r (i+1)).length=(repB r i).length+(1+r.held[i].name.size)+8:=by rw[zdJ hi,List.length_append,List.length_append,zb5,zbb]
  repeat'(first|(with_reducible first|refine zaa _ _ ?_|refine zad ?_|refine zae ?_)|rw[zaf]|simp only[hat,List.cons_append,List.nil_append,zaD,hle,hle2,k1,k2,k3,k4,zbM,List.length_map,zbb,zY,Int.reduceEq,Int.reduceBEq,Int.reduceBNe,Nat.reduceSub,Nat.reduceEqDiff,Nat.reduceAdd,Nat.reduceMul,Nat.reduceLeDiff,Nat.reduceLT,Nat.reduceBEq,reduceCtorEq]|((first|((try refine zah ?_);apply zak)|(apply zai;intro _));(solve|exact(hpt)|exact(hpm)|(refine CallOK.le (hpt) ?_;exact zM)|(refine CallOK.le (hpm) ?_;exact zM)|fail);try case hn=>rfl)|refine zab ?_|refine zac (fun hb=> ?_) (fun hb=> ?_)|(refine And.intro ?_ ?_;exact zI)|refine And.intro (fun hg=> ?_) (fun hg=> ?_)|exact zC|fail)
  exact hK _ (i+1) (Gh.canon [1,6] [] [] (by simp only[hw,hsl,zaq,zaE,zar,zaw,zax,zay,List.set_cons_zero,List.set_cons_succ,and_true,true_and,Int.natCast_zero,Int.cast_ofNat_Int,D.v.injEq,Value.int.injEq];try(repeat'(first|rfl|omega|with_reducible apply And.intro))) rfl (by rw[zdJ hi,zne];simp only[bytesE,List.map_append];rfl)) hi rfl (by omega)
 ·have hi:i=r.held.length:=by
   have:¬(i:Int)<r.held.length:=by simpa using hge
   omega
  subst hi
  repeat'(first|(with_reducible first|refine zaa _ _ ?_|refine zad ?_|refine zae ?_)|rw[zaf]|simp only[zY,Int.reduceEq,Int.reduceBEq,Int.reduceBNe,Nat.reduceSub,Nat.reduceEqDiff,Nat.reduceAdd,Nat.reduceMul,Nat.reduceLeDiff,Nat.reduceLT,Nat.reduceBEq,reduceCtorEq]|refine zab ?_|refine zac (fun hb=> ?_) (fun hb=> ?_)|(refine And.intro ?_ ?_;exact zI)|refine And.intro (fun hg=> ?_) (fun hg=> ?_)|exact zC|fail)
  rw[ziv]
end Go.Proofs.YtiegkabcgokhkaaGreat
