import Derived.Test.YtniafckaafcpbaaGreatVA
namespace Go.Proofs.YtniafckaafcpbaaGreat
open Go.Pk
set_option maxRecDepth 100000
set_option linter.unusedSimpArgs false
set_option linter.unusedVariables false
theorem zmB {l:List Int} {c:Int}:withoutP l [c]=l.filter fun x=> !(x==c):=by
 unfold withoutP hasI
 congr 1
 funext x
 simp[zih]
theorem zgB:∀{l:List Int} {c:Int},l.Nodup→hasI l c=true→(leaveP l c).1=withoutP l [c]:=fun {l c} hn hc=>by
 rw[zmB]
 unfold leaveP
 rcases zcw (fun x=>c==x) l 0 with⟨h1,_⟩|⟨k,hk,h2,h3,h4⟩
 ·exfalso
  unfold hasI at hc
  obtain⟨x,hx,hx2⟩:=List.any_eq_true.1 hc
  rw[h1 x hx]at hx2;cases hx2
 ·have h2':idxF (fun x=>c==x) l 0=((0+k:Nat):Int):=h2
  rw[h2',if_neg (by omega)]
  simp only[Nat.zero_add,Int.toNat_natCast]
  have hck:c=l[k]:=by simpa using h3
  subst hck
  clear h2 h2' h3 h4 hc
  induction l generalizing k with
  |nil=>simp at hk
  |cons y l ih=>
   have hn':=List.nodup_cons.1 hn
   cases k with
   |zero=>
    simp only[List.eraseIdx_cons_zero,List.getElem_cons_zero,List.filter_cons,beq_self_eq_true,Bool.not_true,Bool.false_eq_true,if_false]
    refine(List.filter_eq_self.2 fun x hx=> ?_).symm
    have:x≠y:=fun e=>hn'.1 (e▸hx)
    simpa using this
   |succ k=>
    have hk':k<l.length:=by simpa using hk
    simp only[List.eraseIdx_cons_succ,List.getElem_cons_succ,List.filter_cons]
    have:y≠l[k]:=fun e=>hn'.1 (e▸List.getElem_mem hk')
    rw[if_pos (by simpa using this),ih hn'.2 k hk']
set_option maxHeartbeats 4000000 in
theorem zi9 (l:List Lk) (hs:SL l) (hl:l.length<2^30) (hll:∀k∈l,k.line.length<2^30∧k.line.Nodup) (name:ByteArray) (c t:Int) (ht:0≤t∧t<2^62):
  CallOK Tryz.prog 88 [.f (al l.length (locksE l)), .f (ast name), .f (ai c), .f (ai t)]
  (fun r o=>r=[.one (.own 4 (freeP l name c t).1.length (locksE (freeP l name c t).1) false),ri (freeP l name c t).2.1,ri (freeP l name c t).2.2]∧o=[]):=by
 refine CallOK.nil ?_
 refine zak zaA mixed (T:=Ty) (n:=101) Tryz.func88 (c:=Tryz.f88.body.getD .skip) rfl Tryz.results88 Tryz.ntmps88 Tryz.call88 ?_
 simp only[Tryz.f88,Option.getD]
 have hco:=zeA l hl (fun k hk=>(hll k hk).1)
 have hfi:=zfd l (by omega) name
 rw[zdX hs]at hfi
 have hwt:IntKind.i64.wrap (t+1)=t+1:=wrap64 (by omega) (by omega)
 cases hf:findL l name with
 |none=>
  rw[hf]at hfi
  simp only at hfi
  have hm1:decide ((-1:Int)<0)=true:=rfl
  have hfr:freeP l name c t=([],0,6):=by unfold freeP;rw[hf]
  rw[hfr]
  repeat'(first|(with_reducible first|refine zaa _ _ ?_|refine zae ?_|refine zaf ?_)|rw[zad]|simp only[hm1,zaL,zY,Int.reduceEq,Int.reduceBEq,Int.reduceBNe,Nat.reduceSub,Nat.reduceEqDiff,Nat.reduceAdd,Nat.reduceMul,Nat.reduceLeDiff,Nat.reduceLT,Nat.reduceBEq,reduceCtorEq]|((first|((try refine zai ?_);apply zaj)|(apply zah;intro _));(solve|exact(hco)|exact(hfi)|(refine CallOK.le (hco) ?_;exact zM)|(refine CallOK.le (hfi) ?_;exact zM)|fail);try case hn=>rfl)|refine zab ?_|refine zac (fun hb=> ?_) (fun hb=> ?_)|(refine And.intro ?_ ?_;exact zI)|refine And.intro (fun hg=> ?_) (fun hg=> ?_)|exact zC|fail)
  simp[rfs3,roLe]
 |some k=>
  rw[hf]at hfi
  simp only at hfi
  obtain⟨⟨hi,he⟩,hn⟩:=zby hs hf
  have hat:=zaG hi
  rw[he]at hat
  obtain⟨hkl,hkn⟩:=hll k (he▸List.getElem_mem hi)
  have hah:=zff k.line (by omega) c
  have hm1:decide ((posL l name:Int)<0)=false:=by simp
  have hat1:(locksE l).drop (posL l name*4+1)=iD k.holder::iD k.token:: .sl k.line.length (intsE k.line)::locksE (l.drop (posL l name+1)):=by rw[←List.drop_drop,hat];rfl
  have hat3:(locksE l).drop (posL l name*4+3)= .sl k.line.length (intsE k.line)::locksE (l.drop (posL l name+1)):=by rw[←List.drop_drop,hat];rfl
  have hfr:freeP l name c t=if(k.holder==c)=true then((passP l (posL l name) k t).1,(passP l (posL l name) k t).2,0)else
    if hasI k.line c=true then(l.set (posL l name) ⟨k.name,k.holder,k.token,(leaveP k.line c).1⟩,0,0)else([],0,6):=by unfold freeP;rw[hf]
  cases h1:(k.holder==c)
  ·have h1':(k.holder !=c)=true:=by rw[bne,h1];rfl
   rw[if_neg (by rw[h1];simp)]at hfr
   cases h3:hasI k.line c
   ·rw[if_neg (by rw[h3];simp)]at hfr
    rw[hfr]
    rw[h3]at hah
    repeat'(first|(with_reducible first|refine zaa _ _ ?_|refine zae ?_|refine zaf ?_)|rw[zad]|simp only[hm1,h1',hat1,hat3,←List.map_drop,List.map_cons,zam,zaL,zY,Int.reduceEq,Int.reduceBEq,Int.reduceBNe,Nat.reduceSub,Nat.reduceEqDiff,Nat.reduceAdd,Nat.reduceMul,Nat.reduceLeDiff,Nat.reduceLT,Nat.reduceBEq,reduceCtorEq]|((first|((try refine zai ?_);apply zaj)|(apply zah;intro _));(solve|exact(hco)|exact(hfi)|exact(hah)|(refine CallOK.le (hco) ?_;exact zM)|(refine CallOK.le (hfi) ?_;exact zM)|(refine CallOK.le (hah) ?_;exact zM)|fail);try case hn=>rfl)|refine zab ?_|refine zac (fun hb=> ?_) (fun hb=> ?_)|(refine And.intro ?_ ?_;exact zI)|refine And.intro (fun hg=> ?_) (fun hg=> ?_)|exact zC|fail)
    simp[rfs3,roLe]
   ·rw[if_pos h3,zgB hkn h3]at hfr
    rw[hfr]
    rw[h3]at hah
    have hwo:=zfg k.line [c] hkl (by simp)
    have hset:=zbr Lk.enc 4 (fun _=>rfl) hi (k:=3) (by decide) (.sl (withoutP k.line [c]).length (intsE (withoutP k.line [c]))) ⟨k.name,k.holder,k.token,withoutP k.line [c]⟩ (by rw[he];rfl)
    have hwl:(intsE (withoutP k.line [c])).take ((withoutP k.line [c]).length*1)=intsE (withoutP k.line [c]):=List.take_of_length_le (by rw[zaw];omega)
    repeat'(first|(with_reducible first|refine zaa _ _ ?_|refine zae ?_|refine zaf ?_)|rw[zad]|simp only[hm1,h1',hat1,hat3,hset,hwl,rowI,zaw,←List.map_drop,List.map_cons,zam,zaL,zY,Int.reduceEq,Int.reduceBEq,Int.reduceBNe,Nat.reduceSub,Nat.reduceEqDiff,Nat.reduceAdd,Nat.reduceMul,Nat.reduceLeDiff,Nat.reduceLT,Nat.reduceBEq,reduceCtorEq]|((first|((try refine zai ?_);apply zaj)|(apply zah;intro _));(solve|exact(hco)|exact(hfi)|exact(hah)|exact(hwo)|(refine CallOK.le (hco) ?_;exact zM)|(refine CallOK.le (hfi) ?_;exact zM)|(refine CallOK.le (hah) ?_;exact zM)|(refine CallOK.le (hwo) ?_;exact zM)|fail);try case hn=>rfl)|refine zab ?_|refine zac (fun hb=> ?_) (fun hb=> ?_)|(refine And.intro ?_ ?_;exact zI)|refine And.intro (fun hg=> ?_) (fun hg=> ?_)|exact zC|fail)
    simp[rfs3,roLe]
  ·have h1':(k.holder !=c)=false:=by rw[bne,h1];rfl
   rw[if_pos h1]at hfr
   rw[hfr]
   unfold passP
   cases hk:k.line with
   |nil=>
    rw[hk]at hat1 hat3
    simp only[List.length_nil,List.flatMap_nil]at hat1 hat3
    have hE:=zgS Lk.enc 4 (fun _=>rfl) hi
    have hE2:((locksE l).drop ((posL l name+1)*4)).take ((l.length - (posL l name+1))*4)=(locksE l).drop ((posL l name+1)*4):=List.take_of_length_le (by rw[List.length_drop,zam];omega)
    have hz:(((0:Nat):Int)==0)=true:=rfl
    have hw:IntKind.i64.wrap ((posL l name:Int)+1)=((posL l name+1:Nat):Int):=by rw[wrap64 (by omega) (by omega)];omega
    have hq1:((locksE l).take (posL l name*4)).length=posL l name*4:=by rw[List.length_take,zam];omega
    have hq2:((locksE l).drop ((posL l name+1)*4)).length=(l.length - (posL l name+1))*4:=by rw[List.length_drop,zam];omega
    have hB1:(posL l name*56≤2^47)=True:=eq_true (by omega)
    have hB2:((posL l name+(l.length - (posL l name+1)))*56≤2^47)=True:=eq_true (by omega)
    have hB3:(((posL l name+1:Nat):Int)≤(l.length:Int))=True:=eq_true (by omega)
    have hB4:((posL l name:Int)≤(l.length:Int))=True:=eq_true (by omega)
    have hB5:(0≤((posL l name+1:Nat):Int))=True:=eq_true (by omega)
    have hTT:((locksE l).take (posL l name*4)).take (posL l name*4)=(locksE l).take (posL l name*4):=List.take_of_length_le (by omega)
    have hTA:(locksE l).take (posL l name*4)++(locksE l).drop ((posL l name+1)*4)=locksE (l.eraseIdx (posL l name)):=hE.symm
    have hle:(l.eraseIdx (posL l name)).length=posL l name+(l.length - (posL l name+1)):=by rw[List.length_eraseIdx_of_lt hi];omega
    repeat'(first|(with_reducible first|refine zaa _ _ ?_|refine zae ?_|refine zaf ?_)|rw[zad]|simp only[hm1,h1',hat1,hat3,hz,hw,hE2,hq1,hq2,hB1,hB2,hB3,hB4,hB5,hTT,hTA,Int.le_refl,←List.map_drop,List.map_cons,zam,zaL,zY,Int.reduceEq,Int.reduceBEq,Int.reduceBNe,Nat.reduceSub,Nat.reduceEqDiff,Nat.reduceAdd,Nat.reduceMul,Nat.reduceLeDiff,Nat.reduceLT,Nat.reduceBEq,reduceCtorEq]|((first|((try refine zai ?_);apply zaj)|(apply zah;intro _));(solve|exact(hco)|exact(hfi)|(refine CallOK.le (hco) ?_;exact zM)|(refine CallOK.le (hfi) ?_;exact zM)|fail);try case hn=>rfl)|refine zab ?_|refine zac (fun hb=> ?_) (fun hb=> ?_)|(refine And.intro ?_ ?_;exact zI)|refine And.intro (fun hg=> ?_) (fun hg=> ?_)|exact zC|fail)
    simp[rfs3,roLe,hle]
   |cons x rest=>
    rw[hk]at hat1 hat3
    have hz:(((rest.length+1:Nat):Int)==0)=false:=by simp;omega
    have hrl:rest.length<2^30:=by rw[hk,List.length_cons]at hkl;omega
    have hn1:rest.length+1 - 1=rest.length:=rfl
    have hT:(intsE rest).take rest.length=intsE rest:=List.take_of_length_le (by rw[zaw];exact Nat.le_refl _)
    have hBr:(rest.length*8≤2^47)=True:=eq_true (by omega)
    have hnx:=List.nodup_cons.1 (hk▸hkn)
    have hset1:=zbr Lk.enc 4 (fun _=>rfl) hi (k:=1) (by decide) (iD x) ⟨k.name,x,k.token,x::rest⟩ (by rw[he,←hk];rfl)
    obtain⟨l1,hl1⟩:∃l1,l1=l.set (posL l name) ⟨k.name,x,k.token,x::rest⟩:=⟨_,rfl⟩
    have hi1:posL l name<l1.length:=by rw[hl1];simpa using hi
    have hg1:l1[posL l name]=⟨k.name,x,k.token,x::rest⟩:=by simp[hl1]
    have hset2:=zbr Lk.enc 4 (fun _=>rfl) hi1 (k:=3) (by decide) (.sl rest.length (intsE rest)) ⟨k.name,x,k.token,rest⟩ (by rw[hg1];rfl)
    obtain⟨l2,hl2⟩:∃l2,l2=l1.set (posL l name) ⟨k.name,x,k.token,rest⟩:=⟨_,rfl⟩
    have hi2:posL l name<l2.length:=by rw[hl2];simpa using hi1
    have hg2:l2[posL l name]=⟨k.name,x,k.token,rest⟩:=by simp[hl2]
    have hset3:=zbr Lk.enc 4 (fun _=>rfl) hi2 (k:=2) (by decide) (iD (t+1)) ⟨k.name,x,t+1,rest⟩ (by rw[hg2];rfl)
    have hl3:l2.set (posL l name) ⟨k.name,x,t+1,rest⟩=l.set (posL l name) ⟨k.name,x,t+1,rest⟩:=by rw[hl2,hl1,List.set_set,List.set_set]
    rw[←hl1]at hset1
    rw[←hl2]at hset2
    rw[hl3]at hset3
    have hat3':=zaG hi1
    rw[hg1]at hat3'
    have hat3':(locksE l1).drop (posL l name*4+3)= .sl (x::rest).length (intsE (x::rest))::locksE (l1.drop (posL l name+1)):=by rw[←List.drop_drop,hat3'];rfl
    have hll1:l1.length=l.length:=by rw[hl1,List.length_set]
    repeat'(first|(with_reducible first|refine zaa _ _ ?_|refine zae ?_|refine zaf ?_)|rw[zad]|simp only[hm1,h1',hat1,hat3,hat3',hz,hwt,hset1,hset2,hset3,zaw,hn1,hT,hBr,hll1,←List.map_drop,List.map_cons,zam,zaL,zY,Int.reduceEq,Int.reduceBEq,Int.reduceBNe,Nat.reduceSub,Nat.reduceEqDiff,Nat.reduceAdd,Nat.reduceMul,Nat.reduceLeDiff,Nat.reduceLT,Nat.reduceBEq,reduceCtorEq]|((first|((try refine zai ?_);apply zaj)|(apply zah;intro _));(solve|exact(hco)|exact(hfi)|(refine CallOK.le (hco) ?_;exact zM)|(refine CallOK.le (hfi) ?_;exact zM)|fail);try case hn=>rfl)|refine zab ?_|refine zac (fun hb=> ?_) (fun hb=> ?_)|(refine And.intro ?_ ?_;exact zI)|refine And.intro (fun hg=> ?_) (fun hg=> ?_)|exact zC|fail)
    simp[rfs3,roLe]
end Go.Proofs.YtniafckaafcpbaaGreat
