import Derived.Test.YtbpmcjeeeiffhaaGreatVA
namespace Go.Proofs.YtbpmcjeeeiffhaaGreat
open Go.Pk
set_option maxRecDepth 100000
set_option linter.unusedSimpArgs false
set_option linter.unusedVariables false
theorem zs1 {l:List Int} {c:Int}:zaX l [c]=l.filter fun x=> !(x==c):=by
 unfold zaX hasI
 congr 1
 funext x
 simp[zmH]
theorem zkn:∀{l:List Int} {c:Int},l.Nodup→hasI l c=true→(zgn l c).1=zaX l [c]:=fun {l c} hn hc=>by
 rw[zs1]
 unfold zgn
 rcases zhr (fun x=>c==x) l 0 with⟨h1,_⟩|⟨k,hk,h2,h3,h4⟩
 ·exfalso
  unfold hasI at hc
  obtain⟨x,hx,hx2⟩:=List.any_eq_true.1 hc
  rw[h1 x hx]at hx2;cases hx2
 ·have h2':zc6 (fun x=>c==x) l 0=((0+k:Nat):Int):=h2
  rw[h2',if_neg (by omega)]
  simp only[Nat.zero_add,Int.toNat_natCast]
  have hck:c=l[k]:=by simpa using h3
  subst hck
  clear h2 h2' h3 h4 hc
  induction l generalizing k with
  |nil=>simp at hk
  |cons y l ih=>
   have hn':=List.nodup_cons.1 hn
   cases k with
   |zero=>
    simp only[List.eraseIdx_cons_zero,List.getElem_cons_zero,List.filter_cons,beq_self_eq_true,Bool.not_true,Bool.false_eq_true,if_false]
    refine(List.filter_eq_self.2 fun x hx=> ?_).symm
    have:x≠y:=fun e=>hn'.1 (e▸hx)
    simpa using this
   |succ k=>
    have hk':k<l.length:=by simpa using hk
    simp only[List.eraseIdx_cons_succ,List.getElem_cons_succ,List.filter_cons]
    have:y≠l[k]:=fun e=>hn'.1 (e▸List.getElem_mem hk')
    rw[if_pos (by simpa using this),ih hn'.2 k hk']
set_option maxHeartbeats 4000000 in
theorem znS (l:List Lk) (hs:SL l) (hl:l.length<2^30) (hll:∀k∈l,k.line.length<2^30∧k.line.Nodup) (name:ByteArray) (c t:Int) (ht:0≤t∧t<2^62):
  CallOK Tryz.prog 151 [.f (al l.length (zai l)), .f (ast name), .f (ai c), .f (ai t)]
  (fun r o=>r=[.one (.own 4 (zbN l name c t).1.length (zai (zbN l name c t).1) false),ri (zbN l name c t).2.1,ri (zbN l name c t).2.2]∧o=[]):=by
 refine CallOK.nil ?_
 refine zac zas mixed (T:=Ty) (n:=101) Tryz.func151 (c:=Tryz.f151.body.getD .skip) rfl Tryz.results151 Tryz.ntmps151 Tryz.call151 ?_
 simp only[Tryz.f151,Option.getD]
 have hco:=zht l hl (fun k hk=>(hll k hk).1)
 have hfi:=zh9 l (by omega) name
 rw[zgp hs]at hfi
 have hwt:IntKind.i64.wrap (t+1)=t+1:=wrap64 (by omega) (by omega)
 cases hf:zc5 l name with
 |none=>
  rw[hf]at hfi
  simp only at hfi
  have hm1:decide ((-1:Int)<0)=true:=rfl
  have hfr:zbN l name c t=([],0,6):=by unfold zbN;rw[hf]
  rw[hfr]
  repeat'(first|refine zq (I hm1 @zal) ?_|exact zd (I hm1 @zal)|refine zc (hco) ?_|refine zg (hco) ?_|refine zc (hfi) ?_|refine zg (hfi) ?_|(refine zaa ?_ ?_<;>intro hb)|(refine And.intro ?_ ?_;exact zI)|(refine And.intro ?_ ?_<;>intro hg)|exact zC|fail)
  simp[zph,zaz]
 |some k=>
  rw[hf]at hfi
  simp only at hfi
  obtain⟨⟨hi,he⟩,hn⟩:=zdf hs hf
  have hat:=za0 hi
  rw[he]at hat
  obtain⟨hkl,hkn⟩:=hll k (he▸List.getElem_mem hi)
  have hah:=zic k.line (by omega) c
  have hm1:decide ((zbu l name:Int)<0)=false:=by simp
  have hat1:(zai l).drop (zbu l name*4+1)=iD k.holder::iD k.token:: .sl k.line.length (zaE k.line)::zai (l.drop (zbu l name+1)):=by rw[←List.drop_drop,hat];rfl
  have hat3:(zai l).drop (zbu l name*4+3)= .sl k.line.length (zaE k.line)::zai (l.drop (zbu l name+1)):=by rw[←List.drop_drop,hat];rfl
  have hfr:zbN l name c t=if(k.holder==c)=true then((zfK l (zbu l name) k t).1,(zfK l (zbu l name) k t).2,0)else
    if hasI k.line c=true then(l.set (zbu l name) ⟨k.name,k.holder,k.token,(zgn k.line c).1⟩,0,0)else([],0,6):=by unfold zbN;rw[hf]
  cases h1:(k.holder==c)
  ·have h1':(k.holder !=c)=true:=by rw[bne,h1];rfl
   rw[if_neg (by rw[h1];simp)]at hfr
   cases h3:hasI k.line c
   ·rw[if_neg (by rw[h3];simp)]at hfr
    rw[hfr]
    rw[h3]at hah
    repeat'(first|refine zq (I hm1 (I h1' (I hat1 (I hat3 (I @zmd (I @List.map_cons.{0,0} (I @zae @zal))))))) ?_|exact zd (I hm1 (I h1' (I hat1 (I hat3 (I @zmd (I @List.map_cons.{0,0} (I @zae @zal)))))))|refine zc (hco) ?_|refine zg (hco) ?_|refine zc (hfi) ?_|refine zg (hfi) ?_|refine zc (hah) ?_|refine zg (hah) ?_|(refine zaa ?_ ?_<;>intro hb)|(refine And.intro ?_ ?_;exact zI)|(refine And.intro ?_ ?_<;>intro hg)|exact zC|fail)
    simp[zph,zaz]
   ·rw[if_pos h3,zkn hkn h3]at hfr
    rw[hfr]
    rw[h3]at hah
    have hwo:=zid k.line [c] hkl (by simp)
    have hset:=zfN Lk.enc 4 (fun _=>rfl) hi (k:=3) (by decide) (.sl (zaX k.line [c]).length (zaE (zaX k.line [c]))) ⟨k.name,k.holder,k.token,zaX k.line [c]⟩ (by rw[he];rfl)
    have hwl:(zaE (zaX k.line [c])).take ((zaX k.line [c]).length*1)=zaE (zaX k.line [c]):=List.take_of_length_le (by rw[zak];omega)
    repeat'(first|(with_reducible first|refine zad _ _ ?_|refine zaS ?_|refine zaT ?_)|rw[zaI]|simp only[hm1,h1',hat1,hat3,hset,hwl,zsM,zak,←List.map_drop,List.map_cons,zae,zal,zY,Int.reduceEq,Int.reduceBEq,Int.reduceBNe,Nat.reduceSub,Nat.reduceEqDiff,Nat.reduceAdd,Nat.reduceMul,Nat.reduceLeDiff,Nat.reduceLT,Nat.reduceBEq,reduceCtorEq]|((first|((try refine zaV ?_);apply za9)|(apply zbc;intro _));(solve|exact(hco)|exact(hfi)|exact(hah)|exact(hwo)|(refine CallOK.le (hco) ?_;exact zM)|(refine CallOK.le (hfi) ?_;exact zM)|(refine CallOK.le (hah) ?_;exact zM)|(refine CallOK.le (hwo) ?_;exact zM)|fail);try case hn=>rfl)|refine zax ?_|refine zaa (fun hb=> ?_) (fun hb=> ?_)|(refine And.intro ?_ ?_;exact zI)|refine And.intro (fun hg=> ?_) (fun hg=> ?_)|exact zC|fail)
    simp[zph,zaz]
  ·have h1':(k.holder !=c)=false:=by rw[bne,h1];rfl
   rw[if_pos h1]at hfr
   rw[hfr]
   unfold zfK
   cases hk:k.line with
   |nil=>
    rw[hk]at hat1 hat3
    simp only[List.length_nil,List.flatMap_nil]at hat1 hat3
    have hE:=zqW Lk.enc 4 (fun _=>rfl) hi
    have hE2:((zai l).drop ((zbu l name+1)*4)).take ((l.length - (zbu l name+1))*4)=(zai l).drop ((zbu l name+1)*4):=List.take_of_length_le (by rw[List.length_drop,zae];omega)
    have hz:(((0:Nat):Int)==0)=true:=rfl
    have hw:IntKind.i64.wrap ((zbu l name:Int)+1)=((zbu l name+1:Nat):Int):=by rw[wrap64 (by omega) (by omega)];omega
    have hq1:((zai l).take (zbu l name*4)).length=zbu l name*4:=by rw[List.length_take,zae];omega
    have hq2:((zai l).drop ((zbu l name+1)*4)).length=(l.length - (zbu l name+1))*4:=by rw[List.length_drop,zae];omega
    have hB1:(zbu l name*56≤2^47)=True:=eq_true (by omega)
    have hB2:((zbu l name+(l.length - (zbu l name+1)))*56≤2^47)=True:=eq_true (by omega)
    have hB3:(((zbu l name+1:Nat):Int)≤(l.length:Int))=True:=eq_true (by omega)
    have hB4:((zbu l name:Int)≤(l.length:Int))=True:=eq_true (by omega)
    have hB5:(0≤((zbu l name+1:Nat):Int))=True:=eq_true (by omega)
    have hTT:((zai l).take (zbu l name*4)).take (zbu l name*4)=(zai l).take (zbu l name*4):=List.take_of_length_le (by omega)
    have hTA:(zai l).take (zbu l name*4)++(zai l).drop ((zbu l name+1)*4)=zai (l.eraseIdx (zbu l name)):=hE.symm
    have hle:(l.eraseIdx (zbu l name)).length=zbu l name+(l.length - (zbu l name+1)):=by rw[List.length_eraseIdx_of_lt hi];omega
    repeat'(first|(with_reducible first|refine zad _ _ ?_|refine zaS ?_|refine zaT ?_)|rw[zaI]|simp only[hm1,h1',hat1,hat3,hz,hw,hE2,hq1,hq2,hB1,hB2,hB3,hB4,hB5,hTT,hTA,Int.le_refl,←List.map_drop,List.map_cons,zae,zal,zY,Int.reduceEq,Int.reduceBEq,Int.reduceBNe,Nat.reduceSub,Nat.reduceEqDiff,Nat.reduceAdd,Nat.reduceMul,Nat.reduceLeDiff,Nat.reduceLT,Nat.reduceBEq,reduceCtorEq]|((first|((try refine zaV ?_);apply za9)|(apply zbc;intro _));(solve|exact(hco)|exact(hfi)|(refine CallOK.le (hco) ?_;exact zM)|(refine CallOK.le (hfi) ?_;exact zM)|fail);try case hn=>rfl)|refine zax ?_|refine zaa (fun hb=> ?_) (fun hb=> ?_)|(refine And.intro ?_ ?_;exact zI)|refine And.intro (fun hg=> ?_) (fun hg=> ?_)|exact zC|fail)
    simp[zph,zaz,hle]
   |cons x rest=>
    rw[hk]at hat1 hat3
    have hz:(((rest.length+1:Nat):Int)==0)=false:=by simp;omega
    have hrl:rest.length<2^30:=by rw[hk,List.length_cons]at hkl;omega
    have hn1:rest.length+1 - 1=rest.length:=rfl
    have hT:(zaE rest).take rest.length=zaE rest:=List.take_of_length_le (by rw[zak];exact Nat.le_refl _)
    have hBr:(rest.length*8≤2^47)=True:=eq_true (by omega)
    have hnx:=List.nodup_cons.1 (hk▸hkn)
    have hset1:=zfN Lk.enc 4 (fun _=>rfl) hi (k:=1) (by decide) (iD x) ⟨k.name,x,k.token,x::rest⟩ (by rw[he,←hk];rfl)
    obtain⟨l1,hl1⟩:∃l1,l1=l.set (zbu l name) ⟨k.name,x,k.token,x::rest⟩:=⟨_,rfl⟩
    have hi1:zbu l name<l1.length:=by rw[hl1];simpa using hi
    have hg1:l1[zbu l name]=⟨k.name,x,k.token,x::rest⟩:=by simp[hl1]
    have hset2:=zfN Lk.enc 4 (fun _=>rfl) hi1 (k:=3) (by decide) (.sl rest.length (zaE rest)) ⟨k.name,x,k.token,rest⟩ (by rw[hg1];rfl)
    obtain⟨l2,hl2⟩:∃l2,l2=l1.set (zbu l name) ⟨k.name,x,k.token,rest⟩:=⟨_,rfl⟩
    have hi2:zbu l name<l2.length:=by rw[hl2];simpa using hi1
    have hg2:l2[zbu l name]=⟨k.name,x,k.token,rest⟩:=by simp[hl2]
    have hset3:=zfN Lk.enc 4 (fun _=>rfl) hi2 (k:=2) (by decide) (iD (t+1)) ⟨k.name,x,t+1,rest⟩ (by rw[hg2];rfl)
    have hl3:l2.set (zbu l name) ⟨k.name,x,t+1,rest⟩=l.set (zbu l name) ⟨k.name,x,t+1,rest⟩:=by rw[hl2,hl1,List.set_set,List.set_set]
    rw[←hl1]at hset1
    rw[←hl2]at hset2
    rw[hl3]at hset3
    have hat3':=za0 hi1
    rw[hg1]at hat3'
    have hat3':(zai l1).drop (zbu l name*4+3)= .sl (x::rest).length (zaE (x::rest))::zai (l1.drop (zbu l name+1)):=by rw[←List.drop_drop,hat3'];rfl
    have hll1:l1.length=l.length:=by rw[hl1,List.length_set]
    repeat'(first|refine zq (I hm1 (I h1' (I hat1 (I hat3 (I hat3' (I hz (I hwt (I hset1 (I hset2 (I hset3 (I @zak (I hn1 (I hT (I hBr (I hll1 (I @zmd (I @List.map_cons.{0,0} (I @zae @zal)))))))))))))))))) ?_|exact zd (I hm1 (I h1' (I hat1 (I hat3 (I hat3' (I hz (I hwt (I hset1 (I hset2 (I hset3 (I @zak (I hn1 (I hT (I hBr (I hll1 (I @zmd (I @List.map_cons.{0,0} (I @zae @zal))))))))))))))))))|refine zc (hco) ?_|refine zg (hco) ?_|refine zc (hfi) ?_|refine zg (hfi) ?_|(refine zaa ?_ ?_<;>intro hb)|(refine And.intro ?_ ?_;exact zI)|(refine And.intro ?_ ?_<;>intro hg)|exact zC|fail)
    simp[zph,zaz]
theorem zv8 {l m:List Lk} (h:SL l) (hs:(m.map Lk.name).Sublist (l.map Lk.name)):SL m:=by
 have h1:(l.map Lk.name).Pairwise fun a b=>zef a b=true:=List.pairwise_map.2 h
 exact List.pairwise_map.1 (h1.sublist hs)
theorem zve {gone:List Int} {l:List Lk}:(l.map (zao gone)).map Lk.name=l.map Lk.name:=by rw[List.map_map];rfl
theorem zvf {l:List Lk} (hs:SL l) {i:Nat} (hi:i<l.length):zc5 l l[i].name=some l[i]∧zbu l l[i].name=i:=by
 have hself:∀x:Lk,isL x.name x=true:=fun x=>by simp[isL]
 have hne:∀{a b:Nat} (ha:a<l.length) (hb:b<l.length),a<b→l[a].name.toList=l[b].name.toList→False:=fun ha hb hab h=>by
  have:=List.pairwise_iff_getElem.1 hs _ _ ha hb hab
  simp only[zef,h,znO]at this
  cases this
 have key:∀{j:Nat} (hj:j<l.length),isL l[i].name l[j]=true→j=i:=fun {j} hj h=>by
  simp only[isL,beq_iff_eq]at h
  rcases Nat.lt_trichotomy j i with h1|h1|h1
  ·exact(hne hj hi h1 h).elim
  ·exact h1
  ·exact(hne hi hj h1 h.symm).elim
 cases hf:zc5 l l[i].name with
 |none=>exact absurd (hself l[i]) (List.find?_eq_none.1 hf _ (List.getElem_mem hi))
 |some x=>
  obtain⟨⟨hp,he⟩,hx⟩:=zdf hs hf
  have:=key hp (by rw[he];exact hx)
  refine⟨?_,this⟩
  rw[←he]
  simp only[this]
theorem zvg {gone:List Int} {k:Lk} (h:k.line.length<2^30∧k.line.Nodup):(zao gone k).line.length<2^30∧(zao gone k).line.Nodup:=
 ⟨Nat.lt_of_le_of_lt (List.length_filter_le ..) h.1,h.2.filter _⟩
set_option maxHeartbeats 4000000 in
theorem zsZ (l:List Lk) (hs:SL l) (hl:l.length<2^30) (hll:∀k∈l,k.line.length<2^30∧k.line.Nodup) (gone:List Int) (hg:gone.length<2^30) (t:Int) (ht:0≤t∧t≤2^61):
  CallOK Tryz.prog 144 [.f (al l.length (zai l)), .f (al gone.length (zaE gone)), .f (ai t)]
  (fun r o=>r=[.one (.own 4 (zdO l gone t).1.length (zai (zdO l gone t).1) false),ri (zdO l gone t).2]∧o=[]):=by
 refine zac zas mixed (T:=Ty) (n:=72) Tryz.func144 (c:=Tryz.f144.body.getD .skip) rfl Tryz.results144 Tryz.ntmps144 Tryz.call144 ?_
 simp only[Tryz.f144,Option.getD]
 have hco:=zht l hl (fun k hk=>(hll k hk).1)
 repeat'(first|refine zq (I @zae @zal) ?_|exact zd (I @zae @zal)|refine zc (hco) ?_|refine zg (hco) ?_|(refine zaa ?_ ?_<;>intro hb)|(refine And.intro ?_ ?_;exact zI)|(refine And.intro ?_ ?_<;>intro hg)|exact zC|fail)
 refine zam (τ:=Nat) (fun i=>⟨[al l.length (zai l),al gone.length (zaE gone),ai t,dd,dd,dd,dd,dd, .one (.own ⟨8,1,1⟩ 0 l.length),ai i,dd,dd,dd,dd,dd,dd,dd,dd,dd,dd,dd,dd,dd,dd,dd,dd,dd,dd,dd,dd,dd,dd,dd,dd,dd,dd,dd,dd,dd,dd,dd,dd,dd,dd,dd,dd,dd,dd,dd,dd,dd,dd,dd,dd,dd,dd,dd,dd,dd,dd,dd,dd,dd,dd,dd,dd,dd,dd,dd,dd,dd,dd],[(16,⟨2,[]⟩),(8,{next:=2,l:=[none,some {e:=1,var:=false,fz:=false,sz:=4,cells:=(zai (curL l gone i)).map C.d}]}),(31,⟨2,[]⟩)]⟩)
  (fun i=>i≤l.length) (fun _=>()) (fun i=>l.length - i) 0
  (Gh.canon [8] [31] [] zK rfl rfl) (Nat.zero_le _) ?_
 intro i hi0 hF K hK
 refine zw ?_
 refine zaa (fun hlt=> ?_) (fun hge=> ?_)
 ·have hi:i<l.length:=by simpa using hlt
  obtain⟨hic,hce⟩:=zu9 (gone:=gone) hi
  have hat:=za0 hic
  rw[hce]at hat
  have hat2:(zai (curL l gone i)).drop (i*4+3)= .sl l[i].line.length (zaE l[i].line)::zai ((curL l gone i).drop (i+1)):=by rw[←List.drop_drop,hat];rfl
  have hw:=zaq hi (by omega)
  have hwo:=zid l[i].line gone (hll _ (List.getElem_mem hi)).1 hg
  have hset:=zfN Lk.enc 4 (fun _=>rfl) hic (k:=3) (by decide) (.sl (zaX l[i].line gone).length (zaE (zaX l[i].line gone))) (zao gone l[i]) (by rw[hce];rfl)
  rw[zq3 hi]at hset
  have hwl:(zaE (zaX l[i].line gone)).take ((zaX l[i].line gone).length*1)=zaE (zaX l[i].line gone):=List.take_of_length_le (by rw[zak];omega)
  repeat'(first|(with_reducible first|refine zad _ _ ?_|refine zaS ?_|refine zaT ?_)|rw[zaI]|simp only[hat2,hset,hwl,zsM,←List.map_drop,List.map_cons,zae,zsQ hi0,zY,Int.reduceEq,Int.reduceBEq,Int.reduceBNe,Nat.reduceSub,Nat.reduceEqDiff,Nat.reduceAdd,Nat.reduceMul,Nat.reduceLeDiff,Nat.reduceLT,Nat.reduceBEq,reduceCtorEq]|((first|((try refine zaV ?_);apply za9)|(apply zbc;intro _));(solve|exact(hwo)|(refine CallOK.le (hwo) ?_;exact zM)|fail);try case hn=>rfl)|refine zax ?_|refine zaa (fun hb=> ?_) (fun hb=> ?_)|(refine And.intro ?_ ?_;exact zI)|refine And.intro (fun hg=> ?_) (fun hg=> ?_)|exact zC|fail)
  exact hK _ (i+1) (Gh.canon [8] [] [] (zk hw) rfl rfl) hi rfl (by omega)
 ·have hi:i=l.length:=by
   have:¬(i:Int)<l.length:=by simpa using hge
   omega
  rw[hi,zsR]
  have hdP:zdO l gone t=zb2 gone t (l.map (zao gone)) 0:=rfl
  rw[hdP]
  obtain⟨W,hW⟩:∃W,W=l.map (zao gone):=⟨_,rfl⟩
  have hWl:W.length=l.length:=by rw[hW,List.length_map]
  have hWn:W.map Lk.name=l.map Lk.name:=by rw[hW];exact zve
  have hWg:∀(j:Nat) (hj:j<l.length),W[j]'(by omega)=zao gone l[j]:=fun j hj=>by simp[hW]
  have hWk:∀k∈W,k.line.length<2^30∧k.line.Nodup:=fun k hk=>by
   rw[hW]at hk
   obtain⟨k0,hk0,rfl⟩:=List.mem_map.1 hk
   exact zvg (hll k0 hk0)
  rw[←hW]
  clear hdP hW
  repeat'(first|refine zq0 ?_|exact zd0|(refine zaa ?_ ?_<;>intro hb)|(refine And.intro ?_ ?_;exact zI)|(refine And.intro ?_ ?_<;>intro hg)|exact zC|fail)
  refine zam (τ:=List Lk×Nat×Int) (fun q=>⟨[al l.length (zai l),al gone.length (zaE gone),ai t,dd,dd,dd,dd,dd, .one (.own ⟨8,1,1⟩ 0 (q.1++W.drop q.2.1).length),dd,ai q.2.2,ai q.2.1,dd,dd,dd,dd,dd,dd,dd,dd,dd,dd,dd,dd,dd,dd,dd,dd,dd,dd,dd,dd,dd,dd,dd,dd,dd,dd,dd,dd,dd,dd,dd,dd,dd,dd,dd,dd,dd,dd,dd,dd,dd,dd,dd,dd,dd,dd,dd,dd,dd,dd,dd,dd,dd,dd,dd,dd,dd,dd,dd,dd],[(16,⟨2,[]⟩),(8,{next:=2,l:=[none,some {e:=1,var:=false,fz:=false,sz:=4,cells:=(zai (q.1++W.drop q.2.1)).map C.d}]}),(31,⟨2,[]⟩),(12,⟨2,[]⟩),(62,⟨2,[]⟩)]⟩)
   (fun q=>q.2.1≤l.length∧(0≤q.2.2∧q.2.2≤q.2.1)∧(q.1.map Lk.name).Sublist ((l.take q.2.1).map Lk.name)∧∀k∈q.1,k.line.length<2^30∧k.line.Nodup)
   (fun q=>(q.1++(zb2 gone t (W.drop q.2.1) q.2.2).1,(zb2 gone t (W.drop q.2.1) q.2.2).2)) (fun q=>l.length - q.2.1) ([],0,0)
   (Gh.canon [8] [12,62] [] (zk (I @List.drop_zero.{0} (I @List.nil_append.{0} hWl))) rfl rfl) ⟨Nat.zero_le _,⟨Int.le_refl _,Int.le_refl _⟩,List.nil_sublist _,by simp⟩ ?_
  rintro⟨L,i,g⟩ ⟨j1,j2,j3,j4⟩ hF K hK
  simp only[List.drop_zero,List.nil_append]at j1 j2 j3 j4 hF hK⊢
  refine zw ?_
  refine zaa (fun hlt=> ?_) (fun hge=> ?_)
  ·have hi:i<l.length:=by simpa using hlt
   have hat:=za0 hi
   have hat1:(zai l).drop (i*4+1)=iD l[i].holder::iD l[i].token:: .sl l[i].line.length (zaE l[i].line)::zai (l.drop (i+1)):=by rw[←List.drop_drop,hat];rfl
   have hin:=zv5 gone (by omega) l[i].holder
   have hw:=zaq hi (by omega)
   have hiw:i<W.length:=by omega
   have hgw:=hWg i hi
   have hdr:=zoL (gone:=gone) (t:=t) (g:=g) hiw
   rw[hgw]at hdr
   have hdc:W.drop i=zao gone l[i]::W.drop (i+1):=by rw[List.drop_eq_getElem_cons hiw,hgw]
   have hL:L.length≤i:=by have:=j3.length_le;simp only[List.length_map,List.length_take]at this;omega
   have htk:(l.take (i+1)).map Lk.name=(l.take i).map Lk.name++[l[i].name]:=by rw[←List.take_append_getElem hi,List.map_append];rfl
   cases hh:hasI gone l[i].holder
   ·rw[hh]at hin
    rw[show hasI gone (zao gone l[i]).holder=false from hh,if_neg (by simp)]at hdr
    have hMe:L++W.drop i=L++[zao gone l[i]]++W.drop (i+1):=by rw[hdc];simp
    obtain⟨M,hM⟩:∃M,M=L++W.drop i:=⟨_,rfl⟩
    rw[←hM]
    rw[hMe]at hM
    repeat'(first|refine zq (I hat (I hat1 (I @zae zca))) ?_|exact zd (I hat (I hat1 (I @zae zca)))|refine zc (hin) ?_|refine zg (hin) ?_|(refine zaa ?_ ?_<;>intro hb)|(refine And.intro ?_ ?_;exact zI)|(refine And.intro ?_ ?_<;>intro hg)|exact zC|fail)
    rw[hM]
    refine hK _ (L++[zao gone l[i]],i+1,g) (Gh.canon [8] [] [] (zk hw) rfl rfl) ⟨hi,⟨j2.1,by simp only;omega⟩, ?_, ?_⟩ ?_ (by simp only;omega)
    ·simp only[htk,List.map_append,List.map_cons,List.map_nil]
     exact j3.append (List.Sublist.refl _)
    ·intro k hk
     rcases List.mem_append.1 hk with hk|hk
     ·exact j4 k hk
     ·rw[List.mem_singleton.1 hk];exact zvg (hll _ (List.getElem_mem hi))
    ·simp only;rw[hdr];simp
   ·rw[hh]at hin
    rw[show hasI gone (zao gone l[i]).holder=true from hh,if_pos rfl]at hdr
    -- the row,as it stands
    obtain⟨M,hM⟩:∃M,M=L++W.drop i:=⟨_,rfl⟩
    have hMl:M.length=L.length+(l.length - i):=by rw[hM,List.length_append,List.length_drop,hWl]
    have hMs:SL M:=zv8 hs (by
     rw[hM,List.map_append,List.map_drop,hWn,←List.map_drop]
     have:=j3.append (List.Sublist.refl ((l.drop i).map Lk.name))
     rwa[show(l.take i).map Lk.name++(l.drop i).map Lk.name=l.map Lk.name from by rw[←List.map_append,List.take_append_drop]]at this)
    have hMk:∀k∈M,k.line.length<2^30∧k.line.Nodup:=fun k hk=>by
     rw[hM]at hk
     rcases List.mem_append.1 hk with hk|hk
     ·exact j4 k hk
     ·exact hWk k (List.mem_of_mem_drop hk)
    have hMi:L.length<M.length:=by omega
    have hMg:M[L.length]=zao gone l[i]:=by
     subst hM
     rw[List.getElem_append_right (Nat.le_refl _)]
     simp only[Nat.sub_self,List.getElem_drop,Nat.add_zero]
     exact hgw
    obtain⟨hf1,hf2⟩:=zvf hMs hMi
    rw[hMg]at hf1 hf2
    have hf1:zc5 M l[i].name=some (zao gone l[i]):=hf1
    have hf2:zbu M l[i].name=L.length:=hf2
    have hfr:=znS M hMs (by omega) hMk l[i].name l[i].holder (t+g) (by omega)
    have hwt:IntKind.i64.wrap (t+g)=t+g:=wrap64 (by omega) (by omega)
    have hfp:zbN M l[i].name l[i].holder (t+g)=((zfK M L.length (zao gone l[i]) (t+g)).1,(zfK M L.length (zao gone l[i]) (t+g)).2,0):=by
     unfold zbN
     rw[hf1,hf2]
     simp only
     rw[if_pos (show((zao gone l[i]).holder==l[i].holder)=true from by simp[zao])]
    rw[hfp]at hfr
    rw[←hM]
    clear hlt
    cases hline:(zao gone l[i]).line with
    |nil=>
     rw[hline]at hdr
     simp only at hdr
     have hp:zfK M L.length (zao gone l[i]) (t+g)=(M.eraseIdx L.length,0):=by unfold zfK;rw[hline]
     rw[hp]at hfr
     have hg0:IntKind.i64.wrap (g+0)=g:=by rw[Int.add_zero];exact wrap64 (by omega) (by omega)
     have hMe:M.eraseIdx L.length=L++W.drop (i+1):=by rw[hM,List.eraseIdx_append_of_length_le (Nat.le_refl _),Nat.sub_self,hdc];rfl
     rw[hMe]at hfr
     repeat'(first|refine zq (I hat (I hat1 (I hwt (I @zae (I @zal zca))))) ?_|exact zd (I hat (I hat1 (I hwt (I @zae (I @zal zca)))))|refine zc (hin) ?_|refine zg (hin) ?_|refine zc (hfr) ?_|refine zg (hfr) ?_|(refine zaa ?_ ?_<;>intro hb)|(refine And.intro ?_ ?_;exact zI)|(refine And.intro ?_ ?_<;>intro hg)|exact zC|fail)
     refine hK _ (L,i+1,g) (Gh.canon [8] [] [] (zk (I hw hg0)) rfl rfl) ⟨hi,⟨j2.1,by simp only;omega⟩, ?_,j4⟩ ?_ (by simp only;omega)
     ·simp only[htk]
      exact j3.trans (List.sublist_append_left _ _)
     ·simp only;rw[hdr]
    |cons x rest=>
     rw[hline]at hdr
     simp only at hdr
     have hp:zfK M L.length (zao gone l[i]) (t+g)=(M.set L.length ⟨l[i].name,x,t+g+1,rest⟩,1):=by unfold zfK;rw[hline];rfl
     rw[hp]at hfr
     have hg1:IntKind.i64.wrap (g+1)=g+1:=wrap64 (by omega) (by omega)
     have hMe:M.set L.length ⟨l[i].name,x,t+g+1,rest⟩=L++[⟨l[i].name,x,t+g+1,rest⟩]++W.drop (i+1):=by rw[hM,List.set_append_right _ _ (Nat.le_refl _),Nat.sub_self,hdc];simp
     rw[hMe]at hfr
     repeat'(first|refine zq (I hat (I hat1 (I hwt (I @zae (I @zal zca))))) ?_|exact zd (I hat (I hat1 (I hwt (I @zae (I @zal zca)))))|refine zc (hin) ?_|refine zg (hin) ?_|refine zc (hfr) ?_|refine zg (hfr) ?_|(refine zaa ?_ ?_<;>intro hb)|(refine And.intro ?_ ?_;exact zI)|(refine And.intro ?_ ?_<;>intro hg)|exact zC|fail)
     refine hK _ (L++[⟨l[i].name,x,t+g+1,rest⟩],i+1,g+1) (Gh.canon [8] [] [] (zk (I hw hg1)) rfl rfl) ⟨hi,⟨by simp only;omega,by simp only;omega⟩, ?_, ?_⟩ ?_ (by simp only;omega)
     ·simp only[htk,List.map_append,List.map_cons,List.map_nil]
      exact j3.append (List.Sublist.refl _)
     ·intro k hk
      rcases List.mem_append.1 hk with hk|hk
      ·exact j4 k hk
      ·rw[List.mem_singleton.1 hk]
       have:=zvg (gone:=gone) (hll _ (List.getElem_mem hi))
       rw[hline]at this
       exact⟨by have:=this.1;simp only[List.length_cons]at this⊢;omega,(List.nodup_cons.1 this.2).2⟩
     ·simp only;rw[hdr];simp[zao]
  ·have hi:i=l.length:=by
    have:¬(i:Int)<l.length:=by simpa using hge
    omega
   subst hi
   have hd0:W.drop l.length=[]:=List.drop_eq_nil_of_le (by omega)
   rw[hd0]at hF⊢
   simp only[zb2,List.append_nil]at hF⊢
   have e1:L=(zb2 gone t W 0).1:=congrArg Prod.fst hF
   have e2:g=(zb2 gone t W 0).2:=congrArg Prod.snd hF
   rw[←e1,←e2]
   repeat'(first|refine zq0 ?_|exact zd0|(refine zaa ?_ ?_<;>intro hb)|(refine And.intro ?_ ?_;exact zI)|(refine And.intro ?_ ?_<;>intro hg)|exact zC|fail)
structure RightS (s:St):Prop where
 time:0≤s.time∧s.time≤zbB
 num:0≤s.num∧s.num≤zbB
 token:0≤s.token∧s.token≤zbB
 ss:SS s.sess
 sok:∀x∈s.sess,zg2 x=true∧x.num≤s.num
 snd:s.sess.Pairwise fun a b=>a.num≠b.num
 sl:s.sess.length≤5
 ls:SL s.locks
 lok:∀k∈s.locks,zoG k=true∧k.token≤s.token∧lineB k.line=true∧hasI k.line k.holder=false
 lnd:s.locks.Pairwise fun a b=>a.token≠b.token
 ll:s.locks.length≤4
 ms:SM s.memos
 mok:∀m∈s.memos,answerB m=true
 seat:∀k∈s.locks,(zaA s.sess k.holder).isSome=true∧∀c∈k.line,(zaA s.sess c).isSome=true
theorem zdI {α:Type} {r:α→α→Prop} (ht:∀a b c,r a b→r b c→r a c):∀{l:List α},(∀j (hj:j<l.length),0<j→r (l[j - 1]'(by omega)) l[j])→l.Pairwise r
 |[],_=>List.Pairwise.nil
 |[x],_=>by simp
 |x::y::l,h=>by
  have h1:r x y:=h 1 (by simp) (by decide)
  have ih:(y::l).Pairwise r:=zdI ht fun j hj h0=>by
   have:=h (j+1) (by simpa using hj) (by omega)
   obtain⟨k,rfl⟩:∃k,j=k+1:=⟨j - 1,by omega⟩
   simpa using this
  refine List.pairwise_cons.2 ⟨fun z hz=> ?_,ih⟩
  rcases List.mem_cons.1 hz with rfl|hz
  ·exact h1
  ·exact ht _ _ _ h1 ((List.pairwise_cons.1 ih).1 z hz)
theorem zdJ {α:Type} {r:α→α→Prop} {l:List α} (h:l.Pairwise r) (j:Nat) (hj:j<l.length) (h0:0<j):r (l[j - 1]'(by omega)) l[j]:=
 List.pairwise_iff_getElem.1 h (j - 1) j (by omega) hj (by omega)
theorem zff {α:Type} {l:List α} {i:Nat} {p:α→Bool} (hi:i<l.length):(l.take i).any p=false↔∀j (hj:j<l.length),j<i→p l[j]=false:=by
 rw[List.any_eq_false]
 constructor
 ·intro h j hj hji
  have hm:l[j]∈l.take i:=by
   rw[List.mem_take_iff_getElem]
   exact⟨j,by omega,rfl⟩
  simpa using h _ hm
 ·intro h x hx
  rw[List.mem_take_iff_getElem]at hx
  obtain⟨j,hj,rfl⟩:=hx
  simp[h j (by omega) (by omega)]
theorem zls {l:List Sess}:sessB l=true↔l.length≤5∧(∀x∈l,zg2 x=true)∧SS l∧l.Pairwise fun a b=>a.num≠b.num:=by
 unfold sessB
 rw[Bool.and_eq_true,zcx]
 simp only[Nat.zero_add,Bool.not_eq_true',decide_eq_false_iff_not]
 constructor
 ·rintro⟨h1,h2⟩
  have q:∀j (hj:j<l.length),zg2 l[j]=true∧(0<j→zqM l j<l[j].client)∧(∀k (hk:k<l.length),k<j→l[k].num≠l[j].num):=by
   intro j hj
   have:=h2 j hj
   unfold zka at this
   simp only[Bool.and_eq_true,Bool.not_eq_true',Bool.or_eq_false_iff,Bool.and_eq_false_iff,decide_eq_false_iff_not]at this
   obtain⟨a,b,c⟩:=this
   refine⟨a,fun h0=> ?_,fun k hk hkj=> ?_⟩
   ·rcases b with b|b
    ·omega
    ·omega
   ·have:=(zff hj).1 c k hk hkj
    simpa using this
  refine⟨by omega,fun x hx=> ?_, ?_, ?_⟩
  ·obtain⟨j,hj,rfl⟩:=List.getElem_of_mem hx
   exact(q j hj).1
  ·refine zdI (fun a b c h1 h2=>by omega) fun j hj h0=> ?_
   have:=(q j hj).2.1 h0
   unfold zqM at this
   rw[List.getElem?_eq_getElem (by omega)]at this
   simpa using this
  ·rw[List.pairwise_iff_getElem]
   intro i j hi hj hij
   exact(q j hj).2.2 i hi hij
 ·rintro⟨h1,h2,h3,h4⟩
  refine⟨by omega,fun j hj=> ?_⟩
  unfold zka
  simp only[Bool.and_eq_true,Bool.not_eq_true',Bool.or_eq_false_iff,Bool.and_eq_false_iff,decide_eq_false_iff_not]
  refine⟨h2 _ (List.getElem_mem hj), ?_, ?_⟩
  ·by_cases h0:0<j
   ·right
    have:=zdJ h3 j hj h0
    unfold zqM
    rw[List.getElem?_eq_getElem (by omega)]
    simpa using this
   ·left;omega
  ·exact(zff hj).2 fun k hk hkj=>by
    have:=List.pairwise_iff_getElem.1 h4 k j hk hj hkj
    simpa using this
theorem zbF {l:List Int}:lineB l=true↔l.length≤3∧(∀c∈l,isClient c=true)∧l.Nodup:=by
 unfold lineB
 rw[Bool.and_eq_true,zcx]
 simp only[Nat.zero_add,decide_eq_true_eq]
 constructor
 ·rintro⟨h1,h2⟩
  have q:∀j (hj:j<l.length),isClient l[j]=true∧(∀k (hk:k<l.length),k<j→l[k]≠l[j]):=by
   intro j hj
   have:=h1 j hj
   unfold zqO at this
   simp only[Bool.not_eq_true',Bool.or_eq_false_iff,Bool.not_eq_false']at this
   refine⟨this.1,fun k hk hkj=> ?_⟩
   have h3:=(zff hj).1 this.2 k hk hkj
   have h4:¬l[j]=l[k]:=by simpa using h3
   exact fun h=>h4 h.symm
  refine⟨by omega,fun x hx=> ?_, ?_⟩
  ·obtain⟨j,hj,rfl⟩:=List.getElem_of_mem hx
   exact(q j hj).1
  ·unfold List.Nodup
   rw[List.pairwise_iff_getElem]
   intro i j hi hj hij
   exact(q j hj).2 i hi hij
 ·rintro⟨h1,h2,h3⟩
  refine⟨fun j hj=> ?_,by omega⟩
  unfold zqO
  simp only[Bool.not_eq_true',Bool.or_eq_false_iff,Bool.not_eq_false']
  refine⟨h2 _ (List.getElem_mem hj), ?_⟩
  exact(zff hj).2 fun k hk hkj=>by
   unfold List.Nodup at h3
   have:=List.pairwise_iff_getElem.1 h3 k j hk hj hkj
   simpa using fun h=>this h.symm
theorem zqK {l:List Lk}:lockB l=true↔l.length≤4∧(∀k∈l,zoG k=true∧lineB k.line=true∧hasI k.line k.holder=false)∧SL l∧l.Pairwise fun a b=>a.token≠b.token:=by
 unfold lockB
 rw[Bool.and_eq_true,zcx]
 simp only[Nat.zero_add,decide_eq_true_eq]
 constructor
 ·rintro⟨h1,h2⟩
  have q:∀j (hj:j<l.length),(zoG l[j]=true∧lineB l[j].line=true∧hasI l[j].line l[j].holder=false)∧(0<j→zef (zqP l j) l[j].name=true)∧(∀k (hk:k<l.length),k<j→l[k].token≠l[j].token):=by
   intro j hj
   have:=h1 j hj
   unfold zlt at this
   simp only[Bool.and_eq_true,Bool.not_eq_true',Bool.or_eq_false_iff,Bool.and_eq_false_iff,decide_eq_false_iff_not,Bool.not_eq_false']at this
   obtain⟨⟨a,⟨b1,b2⟩,b3⟩,c⟩:=this
   refine⟨⟨a,b1,b2⟩,fun h0=> ?_,fun k hk hkj=> ?_⟩
   ·rcases b3 with b|b
    ·omega
    ·exact b
   ·have:=(zff hj).1 c k hk hkj
    simpa using this
  refine⟨by omega,fun x hx=> ?_, ?_, ?_⟩
  ·obtain⟨j,hj,rfl⟩:=List.getElem_of_mem hx
   exact(q j hj).1
  ·refine zdI (r:=fun x y:Lk=>zef x.name y.name=true) (fun a b c h1 h2=>zke h1 h2) fun j hj h0=> ?_
   have:=(q j hj).2.1 h0
   unfold zqP at this
   rw[List.getElem?_eq_getElem (by omega)]at this
   simpa using this
  ·rw[List.pairwise_iff_getElem]
   intro i j hi hj hij
   exact(q j hj).2.2 i hi hij
 ·rintro⟨h1,h2,h3,h4⟩
  refine⟨fun j hj=> ?_,by omega⟩
  unfold zlt
  simp only[Bool.and_eq_true,Bool.not_eq_true',Bool.or_eq_false_iff,Bool.and_eq_false_iff,decide_eq_false_iff_not,Bool.not_eq_false']
  obtain⟨a,b,c⟩:=h2 _ (List.getElem_mem hj)
  refine⟨⟨a,⟨b,c⟩, ?_⟩, ?_⟩
  ·by_cases h0:0<j
   ·right
    have:=zdJ h3 j hj h0
    unfold zqP
    rw[List.getElem?_eq_getElem (by omega)]
    simpa using this
   ·left;omega
  ·exact(zff hj).2 fun k hk hkj=>by
    have:=List.pairwise_iff_getElem.1 h4 k j hk hj hkj
    simpa using this
theorem zqL {l:List Memo}:memoB l=true↔(∀m∈l,answerB m=true)∧SM l:=by
 unfold memoB
 rw[zcx]
 simp only[Nat.zero_add]
 constructor
 ·intro h1
  have q:∀j (hj:j<l.length),answerB l[j]=true∧(0<j→zqQ l j<l[j].client):=by
   intro j hj
   have:=h1 j hj
   unfold zlv at this
   simp only[Bool.not_eq_true',Bool.or_eq_false_iff,Bool.and_eq_false_iff,decide_eq_false_iff_not,Bool.not_eq_false']at this
   refine⟨this.1,fun h0=> ?_⟩
   rcases this.2 with b|b
   ·omega
   ·omega
  refine⟨fun x hx=> ?_, ?_⟩
  ·obtain⟨j,hj,rfl⟩:=List.getElem_of_mem hx
   exact(q j hj).1
  ·refine zdI (fun a b c h1 h2=>by omega) fun j hj h0=> ?_
   have:=(q j hj).2 h0
   unfold zqQ at this
   rw[List.getElem?_eq_getElem (by omega)]at this
   simpa using this
 ·rintro⟨h2,h3⟩ j hj
  unfold zlv
  simp only[Bool.not_eq_true',Bool.or_eq_false_iff,Bool.and_eq_false_iff,decide_eq_false_iff_not,Bool.not_eq_false']
  refine⟨h2 _ (List.getElem_mem hj), ?_⟩
  by_cases h0:0<j
  ·right
   have:=zdJ h3 j hj h0
   unfold zqQ
   rw[List.getElem?_eq_getElem (by omega)]
   simpa using this
  ·left;omega
theorem zdn {s:St}:zcJ s=true↔RightS s:=by
 unfold zcJ zgM within
 simp only[Bool.and_eq_true,decide_eq_true_eq,zls,zqK,zqL,List.all_eq_true,List.mem_cons,forall_eq_or_imp]
 constructor
 ·rintro⟨⟨⟨⟨⟨⟨⟨⟨h1,h2⟩,h3⟩,a,b,c,d⟩,e,f,g,h⟩,i,j⟩,k⟩,l⟩,m⟩
  exact⟨h1,h2,h3,c,fun x hx=>⟨b x hx,k x hx⟩,d,a,g,fun k hk=>⟨(f k hk).1,l k hk,(f k hk).2⟩,h,e,j,i,m⟩
 ·intro h
  exact⟨⟨⟨⟨⟨⟨⟨⟨h.time,h.num⟩,h.token⟩,h.sl,fun x hx=>(h.sok x hx).1,h.ss,h.snd⟩,h.ll,fun k hk=>⟨(h.lok k hk).1,(h.lok k hk).2.2⟩,h.ls,h.lnd⟩,h.mok,h.ms⟩,fun x hx=>(h.sok x hx).2⟩,fun k hk=>(h.lok k hk).2.1⟩,h.seat⟩
theorem zsJ {l:List Int} {v:Int}:hasI l v=true↔v∈l:=by
 unfold hasI
 simp[List.any_eq_true]
theorem zcw {l:List Int} {v:Int}:hasI l v=false↔v ∉ l:=by
 rw[←Bool.not_eq_true,zsJ]
theorem zcW {l:List Sess} {c:Int}:(zaA l c).isSome=true↔∃x∈l,x.client=c:=by
 unfold zaA
 simp
theorem zgj {α:Type} {r:α→α→Prop} {l:List α} {x:α} {k:Nat} (hl:l.Pairwise r) (h1:∀y∈l.take k,r y x) (h2:∀y∈l.drop k,r x y):(l.take k++x::l.drop k).Pairwise r:=by
 rw[←List.take_append_drop k l]at hl
 obtain⟨a,b,c⟩:=List.pairwise_append.1 hl
 refine List.pairwise_append.2 ⟨a,List.pairwise_cons.2 ⟨h2,b⟩,fun y hy z hz=> ?_⟩
 rcases List.mem_cons.1 hz with rfl|hz
 ·exact h1 y hy
 ·exact c y hy z hz
theorem zh4 {α:Type} {p:α→Bool} {l:List α} {y:α} (h:y∈l.take (znN p l)):p y=true:=by
 rw[List.mem_take_iff_getElem]at h
 obtain⟨j,hj,rfl⟩:=h
 exact zkc (by omega) (by omega)
theorem zh5 {α:Type} {p:α→Bool} {l:List α} {y:α} (hm:zvs p l) (h:y∈l.drop (znN p l)):p y=false:=by
 obtain⟨j,hj,rfl⟩:=List.getElem_of_mem h
 rw[List.getElem_drop]
 exact zkd _ hm (by omega)
theorem zj8 {α β:Type} {f:α→β} {l:List α} {j:Nat} {x:α} (hj:j<l.length) (h:f x=f l[j]):(l.set j x).map f=l.map f:=by
 rw[List.map_set,h]
 apply List.ext_getElem (by simp)
 intro k h1 h2
 rw[List.getElem_set]
 split
 ·rename_i e;subst e;simp
 ·rfl
theorem zj9 {α:Type} {l:List α} {j:Nat} {x y:α} (h:y∈l.set j x):y=x∨y∈l:=by
 rcases List.mem_or_eq_of_mem_set h with h|h
 ·exact .inr h
 ·exact .inl h
theorem zt6 {l:List Sess}:SS l↔(l.map Sess.client).Pairwise (·<·):=by unfold SS;rw[List.pairwise_map]
theorem znL {l:List Lk}:SL l↔(l.map Lk.name).Pairwise (fun a b=>zef a b=true):=by unfold SL;rw[List.pairwise_map]
theorem znM {l:List Memo}:SM l↔(l.map Memo.client).Pairwise (·<·):=by unfold SM;rw[List.pairwise_map]
theorem zd7 (gone:List Int) (token:Int):∀(l:List Lk) (g:Int),0≤g→
  (g≤(zb2 gone token l g).2∧(zb2 gone token l g).2≤g+l.length)∧((zb2 gone token l g).1.map Lk.name).Sublist (l.map Lk.name)∧
  (∀k∈(zb2 gone token l g).1,(k∈l∧hasI gone k.holder=false)∨(token+g<k.token∧k.token≤token+(zb2 gone token l g).2∧∃k0∈l,k0.name=k.name∧k0.line=k.holder::k.line))∧
  ((∀k∈l,k.token≤token)→(l.Pairwise fun a b=>a.token≠b.token)→(zb2 gone token l g).1.Pairwise fun a b=>a.token≠b.token)
 |[],g,hg=>by simp[zb2]
 |k::r,g,hg=>by
  cases hk:hasI gone k.holder
  ·obtain⟨⟨a1,a2⟩,b,c,d⟩:=zd7 gone token r g hg
   have e:zb2 gone token (k::r) g=(k::(zb2 gone token r g).1,(zb2 gone token r g).2):=by rw[zb2,if_neg (by simp[hk])]
   rw[e]
   refine⟨⟨a1,by simp only[List.length_cons];omega⟩,b.cons_cons _,fun x hx=> ?_,fun ht hp=> ?_⟩
   ·rcases List.mem_cons.1 hx with rfl|hx
    ·exact .inl ⟨List.mem_cons_self ..,hk⟩
    ·rcases c x hx with⟨h1,h2⟩|⟨h1,h2,k0,h3,h4⟩
     ·exact .inl ⟨List.mem_cons_of_mem _ h1,h2⟩
     ·exact .inr ⟨h1,h2,k0,List.mem_cons_of_mem _ h3,h4⟩
   ·have hp':=List.pairwise_cons.1 hp
    have hkt:=ht k (List.mem_cons_self ..)
    refine List.pairwise_cons.2 ⟨fun x hx=> ?_,d (fun x hx=>ht x (List.mem_cons_of_mem _ hx)) hp'.2⟩
    rcases c x hx with⟨h1,h2⟩|⟨h1,h2,k0,h3,h4⟩
    ·exact hp'.1 x h1
    ·omega
  ·cases hl:k.line with
   |nil=>
    obtain⟨⟨a1,a2⟩,b,c,d⟩:=zd7 gone token r g hg
    have e:zb2 gone token (k::r) g=zb2 gone token r g:=by rw[zb2,if_pos hk,hl]
    rw[e]
    refine⟨⟨a1,by simp only[List.length_cons];omega⟩,b.cons _,fun x hx=> ?_,fun ht hp=> ?_⟩
    ·rcases c x hx with⟨h1,h2⟩|⟨h1,h2,k0,h3,h4⟩
     ·exact .inl ⟨List.mem_cons_of_mem _ h1,h2⟩
     ·exact .inr ⟨h1,h2,k0,List.mem_cons_of_mem _ h3,h4⟩
    ·exact d (fun x hx=>ht x (List.mem_cons_of_mem _ hx)) (List.pairwise_cons.1 hp).2
   |cons c0 rest=>
    obtain⟨⟨a1,a2⟩,b,c,d⟩:=zd7 gone token r (g+1) (by omega)
    have e:zb2 gone token (k::r) g=(⟨k.name,c0,token+g+1,rest⟩::(zb2 gone token r (g+1)).1,(zb2 gone token r (g+1)).2):=by rw[zb2,if_pos hk,hl]
    rw[e]
    refine⟨⟨by simp only;omega,by simp only[List.length_cons];omega⟩,b.cons_cons _,fun x hx=> ?_,fun ht hp=> ?_⟩
    ·rcases List.mem_cons.1 hx with rfl|hx
     ·exact .inr ⟨by simp only;omega,by simp only;omega,k,List.mem_cons_self ..,rfl,hl⟩
     ·rcases c x hx with⟨h1,h2⟩|⟨h1,h2,k0,h3,h4⟩
      ·exact .inl ⟨List.mem_cons_of_mem _ h1,h2⟩
      ·exact .inr ⟨by omega,h2,k0,List.mem_cons_of_mem _ h3,h4⟩
    ·have hp':=List.pairwise_cons.1 hp
     refine List.pairwise_cons.2 ⟨fun x hx=> ?_,d (fun x hx=>ht x (List.mem_cons_of_mem _ hx)) hp'.2⟩
     simp only
     rcases c x hx with⟨h1,h2⟩|⟨h1,h2,k0,h3,h4⟩
     ·have:=ht x (List.mem_cons_of_mem _ h1);omega
     ·omega
theorem zcr {k:Lk}:zoG k=true↔nameP k.name=true∧(0≤k.holder∧k.holder<8)∧1≤k.token∧k.token≤zbB:=by
 unfold zoG
 simp only[Bool.and_eq_true,Bool.not_eq_true',decide_eq_false_iff_not]
 constructor
 ·rintro⟨⟨⟨⟨a,b⟩,c⟩,d⟩,e⟩;exact⟨a,⟨by omega,by omega⟩,by omega,by omega⟩
 ·rintro⟨a,⟨b,c⟩,d,e⟩;exact⟨⟨⟨⟨a,by omega⟩,by omega⟩,by omega⟩,by omega⟩
theorem zc1 {c:Int}:isClient c=true↔0≤c∧c<8:=by
 unfold isClient;simp
theorem zdH {l gone:List Int} {c:Int}:c∈zaX l gone↔c∈l∧hasI gone c=false:=by
 unfold zaX;simp
theorem zgk {s:St} (h:RightS s) (gone:List Int) (hT:s.token+4≤zbB):RightS (zbv s gone)∧s.token≤(zbv s gone).token∧(zbv s gone).token≤s.token+4:=by
 obtain⟨⟨a1,a2⟩,b,c,d⟩:=zd7 gone s.token (s.locks.map (zao gone)) 0 (Int.le_refl _)
 have hlen:((s.locks.map (zao gone)).length:Int)≤4:=by rw[List.length_map];have:=h.ll;omega
 have hl1:∀k∈s.locks.map (zao gone),zoG k=true∧k.token≤s.token∧lineB k.line=true∧hasI k.line k.holder=false∧(∀c∈k.line,hasI gone c=false)∧(zaA s.sess k.holder).isSome=true∧∀c∈k.line,(zaA s.sess c).isSome=true:=by
  intro k hk
  obtain⟨k0,hk0,rfl⟩:=List.mem_map.1 hk
  obtain⟨e1,e2,e3,e4⟩:=h.lok k0 hk0
  obtain⟨f1,f2⟩:=h.seat k0 hk0
  obtain⟨g1,g2,g3⟩:=zbF.1 e3
  refine⟨e1,e2,zbF.2 ⟨?_,fun c hc=>g2 c (zdH.1 hc).1, ?_⟩, ?_,fun c hc=>(zdH.1 hc).2,f1,fun c hc=>f2 c (zdH.1 hc).1⟩
  ·exact Nat.le_trans (List.length_filter_le ..) g1
  ·exact g3.sublist (List.filter_sublist ..)
  ·rw[zcw]at e4⊢
   exact fun hc=>e4 (zdH.1 hc).1
 have hfind:∀c,(zaA s.sess c).isSome=true→hasI gone c=false→(zaA (s.sess.filter fun x=> !hasI gone x.client) c).isSome=true:=by
  intro c hc hg
  obtain⟨x,hx,rfl⟩:=zcW.1 hc
  exact zcW.2 ⟨x,List.mem_filter.2 ⟨hx,by simp[hg]⟩,rfl⟩
 have hok:∀k∈(zdO s.locks gone s.token).1,zoG k=true∧k.token≤s.token+(zdO s.locks gone s.token).2∧lineB k.line=true∧hasI k.line k.holder=false∧(hasI gone k.holder=false∧∀c∈k.line,hasI gone c=false)∧(zaA s.sess k.holder).isSome=true∧∀c∈k.line,(zaA s.sess c).isSome=true:=by
  intro k hk
  rcases c k hk with⟨h1,h2⟩|⟨h1,h2,k0,h3,h4,h5⟩
  ·obtain⟨e1,e2,e3,e4,e5,e6,e7⟩:=hl1 k h1
   refine⟨e1, ?_,e3,e4,⟨h2,e5⟩,e6,e7⟩
   have:0≤(zdO s.locks gone s.token).2:=a1
   omega
  ·obtain⟨e1,e2,e3,e4,e5,e6,e7⟩:=hl1 k0 h3
   rw[h5]at e3 e5 e7
   obtain⟨g1,g2,g3⟩:=zbF.1 e3
   have g3':=List.nodup_cons.1 g3
   have i1:=zcr.1 e1
   have i2:=zc1.1 (g2 k.holder (List.mem_cons_self ..))
   have a2':(zdO s.locks gone s.token).2≤4:=by have:(zdO s.locks gone s.token).2=(zb2 gone s.token (s.locks.map (zao gone)) 0).2:=rfl;omega
   have h2':k.token≤s.token+(zdO s.locks gone s.token).2:=h2
   have:=h.token
   refine⟨zcr.2 ⟨h4▸i1.1,i2,by omega,by omega⟩,h2',zbF.2 ⟨?_,fun c hc=>g2 c (List.mem_cons_of_mem _ hc),g3'.2⟩,zcw.2 g3'.1,⟨e5 _ (List.mem_cons_self ..),fun c hc=>e5 c (List.mem_cons_of_mem _ hc)⟩,e7 _ (List.mem_cons_self ..),fun c hc=>e7 c (List.mem_cons_of_mem _ hc)⟩
   simp only[List.length_cons]at g1;omega
 have hnm:(s.locks.map (zao gone)).map Lk.name=s.locks.map Lk.name:=by rw[List.map_map];rfl
 have a2':(zdO s.locks gone s.token).2≤4:=by have:(zdO s.locks gone s.token).2=(zb2 gone s.token (s.locks.map (zao gone)) 0).2:=rfl;omega
 have a1':0≤(zdO s.locks gone s.token).2:=a1
 have hT0:=h.token
 refine⟨⟨h.time,h.num,⟨by simp only[zbv];omega,by simp only[zbv];omega⟩, ?_, ?_, ?_, ?_, ?_, ?_, ?_, ?_,h.ms,h.mok, ?_⟩,by simp only[zbv];omega,by simp only[zbv];omega⟩
 ·exact List.Pairwise.sublist (List.filter_sublist ..) h.ss
 ·exact fun x hx=>h.sok x (List.mem_filter.1 hx).1
 ·exact List.Pairwise.sublist (List.filter_sublist ..) h.snd
 ·exact Nat.le_trans (List.length_filter_le ..) h.sl
 ·rw[znL]
  rw[hnm]at b
  exact List.Pairwise.sublist b (znL.1 h.ls)
 ·exact fun k hk=>⟨(hok k hk).1,(hok k hk).2.1,(hok k hk).2.2.1,(hok k hk).2.2.2.1⟩
 ·refine d (fun k hk=>(hl1 k hk).2.1) ?_
  rw[List.pairwise_map]
  exact h.lnd
 ·have:=b.length_le
  rw[hnm,List.length_map,List.length_map]at this
  exact Nat.le_trans this h.ll
 ·intro k hk
  obtain⟨_,_,_,_,⟨g1,g2⟩,f1,f2⟩:=hok k hk
  exact⟨hfind _ f1 g1,fun c hc=>hfind c (f2 c hc) (g2 c hc)⟩
theorem zgl {s:St} (h:RightS s) (time lease:Int) (hT:s.token+4≤zbB):
  RightS (zci s time lease)∧s.token≤(zci s time lease).token∧(zci s time lease).token≤s.token+4∧(zci s time lease).num=s.num∧s.time≤(zci s time lease).time:=by
 have ht:s.time≤zd8 s time∧zd8 s time≤zbB:=by
  have:=h.time
  unfold zd8
  split
  ·rename_i hc;simp at hc;omega
  ·omega
 have h':RightS {s with time:=zd8 s time}:=⟨⟨by have:=h.time;simp only;omega,ht.2⟩,h.num,h.token,h.ss,h.sok,h.snd,h.sl,h.ls,h.lok,h.lnd,h.ll,h.ms,h.mok,h.seat⟩
 obtain⟨a,b,c⟩:=zgk h' (zqN s.sess (zd8 s time) (max lease 1)) hT
 exact⟨a,b,c,rfl,ht.1⟩
theorem zh0 {α:Type} {l:List α} {k:Nat} {x y:α}:y∈l.take k++x::l.drop k↔y=x∨y∈l:=by
 rw[List.mem_append,List.mem_cons]
 constructor
 ·rintro(h|h|h)
  ·exact .inr (List.mem_of_mem_take h)
  ·exact .inl h
  ·exact .inr (List.mem_of_mem_drop h)
 ·rintro(h|h)
  ·exact .inr (.inl h)
  ·rw[←List.take_append_drop k l]at h
   rcases List.mem_append.1 h with h|h
   ·exact .inl h
   ·exact .inr (.inr h)
theorem zqJ {α:Type} {l:List α} {k:Nat} {x:α}:(l.take k++x::l.drop k).length=l.length+1:=by
 simp only[List.length_append,List.length_take,List.length_cons,List.length_drop];omega
theorem zb7 {x:Sess}:zg2 x=true↔isClient x.client=true∧(1≤x.num∧x.num≤zbB)∧0≤x.renewed∧x.renewed≤zbB:=by
 unfold zg2
 simp only[Bool.and_eq_true,Bool.not_eq_true',decide_eq_false_iff_not]
 constructor
 ·rintro⟨⟨⟨⟨a,b⟩,c⟩,d⟩,e⟩;exact⟨a,⟨by omega,by omega⟩,by omega,by omega⟩
 ·rintro⟨a,⟨b,c⟩,d,e⟩;exact⟨⟨⟨⟨a,by omega⟩,by omega⟩,by omega⟩,by omega⟩
theorem zgh {s:St} (h:RightS s):numbered s.sess (s.num+1)=false:=by
 unfold numbered
 rw[List.any_eq_false]
 intro x hx
 have:=(h.sok x hx).2
 simp;omega
theorem znK {s:St} (h:RightS s) {c:Int} (hc:isClient c=true) (hN:s.num+1≤zbB) (hf:zaA s.sess c=none):
  zde s.sess c (s.num+1) s.time=if s.sess.length≥5 then([],5)else(s.sess.take (zfL s.sess c)++⟨c,s.num+1,s.time⟩::s.sess.drop (zfL s.sess c),0):=by
 unfold zde
 have h1:=h.num
 have h2:=h.time
 rw[if_neg (by
  rw[zgh h,hc,hf]
  have e1:decide (s.num+1<1)=false:=by simp;omega
  have e2:decide (s.num+1>zbB)=false:=by simp;omega
  have e3:decide (s.time<0)=false:=by simp;omega
  have e4:decide (s.time>zbB)=false:=by simp;omega
  rw[e1,e2,e3,e4];simp),if_neg (by rw[hf];simp)]
 by_cases h5:s.sess.length≥5
 ·rw[if_pos (by simp;omega),if_pos h5]
 ·rw[if_neg (by simp;omega),if_neg h5]
theorem zoD {s:St} (h:RightS s) {c:Int} (hc:isClient c=true) (hN:s.num+1≤zbB) (hf:zaA s.sess c=none) (h5:s.sess.length<5):
  RightS {s with sess:=s.sess.take (zfL s.sess c)++⟨c,s.num+1,s.time⟩::s.sess.drop (zfL s.sess c),num:=s.num+1}:=by
 have h1:=h.num
 have h2:=h.time
 have hne:∀y∈s.sess,y.client≠c:=by
  intro y hy he
  have:(zaA s.sess c).isSome=true:=zcW.2 ⟨y,hy,he⟩
  rw[hf]at this;cases this
 refine⟨h.time,⟨by simp only;omega,hN⟩,h.token, ?_, ?_, ?_, ?_,h.ls,h.lok,h.lnd,h.ll,h.ms,h.mok, ?_⟩
 ·refine zgj h.ss (fun y hy=> ?_) (fun y hy=> ?_)
  ·simpa using zh4 hy
  ·have:=zh5 (zmE h.ss c) hy
   have:=hne y (List.mem_of_mem_drop hy)
   simp at*;omega
 ·intro x hx
  rcases zh0.1 hx with rfl|hx
  ·exact⟨zb7.2 ⟨hc,⟨by simp only;omega,hN⟩,h2⟩,Int.le_refl _⟩
  ·exact⟨(h.sok x hx).1,by have:=(h.sok x hx).2;simp only;omega⟩
 ·refine zgj h.snd (fun y hy=> ?_) (fun y hy=> ?_)
  ·have:=(h.sok y (List.mem_of_mem_take hy)).2;simp only;omega
  ·have:=(h.sok y (List.mem_of_mem_drop hy)).2;simp only;omega
 ·simp only[zqJ];omega
 ·intro k hk
  have:∀c',(zaA s.sess c').isSome=true→(zaA (s.sess.take (zfL s.sess c)++⟨c,s.num+1,s.time⟩::s.sess.drop (zfL s.sess c)) c').isSome=true:=fun c' hc'=>by
   obtain⟨x,hx,e⟩:=zcW.1 hc'
   exact zcW.2 ⟨x,zh0.2 (.inr hx),e⟩
  exact⟨this _ (h.seat k hk).1,fun c' hc'=>this _ ((h.seat k hk).2 c' hc')⟩
theorem zgi {s:St} (h:RightS s) {c:Int} {x:Sess} (hf:zaA s.sess c=some x):zco s.sess c s.time=(s.sess.set (zfL s.sess c) ⟨x.client,x.num,max x.renewed s.time⟩,0):=by
 have:=h.time
 unfold zco
 rw[if_neg (by simp;omega),hf]
theorem zh1 {s:St} (h:RightS s) {c:Int} {x:Sess} (hf:zaA s.sess c=some x):
  (s.sess.set (zfL s.sess c) ⟨x.client,x.num,max x.renewed s.time⟩).map Sess.client=s.sess.map Sess.client∧(s.sess.set (zfL s.sess c) ⟨x.client,x.num,max x.renewed s.time⟩).map Sess.num=s.sess.map Sess.num:=by
 obtain⟨⟨hi,he⟩,_⟩:=zkf h.ss hf
 exact⟨zj8 hi (by rw[he]),zj8 hi (by rw[he])⟩
theorem zhp {l m:List Sess} (h:l.map Sess.client=m.map Sess.client) (c:Int):(zaA l c).isSome=(zaA m c).isSome:=by
 have key:∀l:List Sess,(zaA l c).isSome=(l.map Sess.client).any fun x=>x==c:=fun l=>by
  rw[List.any_map,Bool.eq_iff_iff,zcW,List.any_eq_true]
  simp
 rw[key,key,h]
theorem zh2 {s:St} (h:RightS s) {c:Int} {x:Sess} (hf:zaA s.sess c=some x):RightS {s with sess:=(zco s.sess c s.time).1}:=by
 rw[zgi h hf]
 simp only
 obtain⟨⟨hi,he⟩,hxc⟩:=zkf h.ss hf
 obtain⟨m1,m2⟩:=zh1 h hf
 have hx:x∈s.sess:=he▸List.getElem_mem hi
 refine⟨h.time,h.num,h.token, ?_, ?_, ?_, ?_,h.ls,h.lok,h.lnd,h.ll,h.ms,h.mok, ?_⟩
 ·rw[zt6,m1];exact zt6.1 h.ss
 ·intro y hy
  rcases zj9 hy with rfl|hy
  ·obtain⟨a,b⟩:=h.sok x hx
   obtain⟨a1,a2,a3,a4⟩:=zb7.1 a
   have:=h.time
   exact⟨zb7.2 ⟨a1,a2,by simp only;omega,by simp only;omega⟩,b⟩
  ·exact h.sok y hy
 ·have:((s.sess.set (zfL s.sess c) ⟨x.client,x.num,max x.renewed s.time⟩).map Sess.num).Pairwise (·≠·):=by rw[m2,List.pairwise_map];exact h.snd
  rwa[List.pairwise_map]at this
 ·simp only[List.length_set];exact h.sl
 ·intro k hk
  exact⟨by simp only;rw[zhp m1];exact(h.seat k hk).1,fun c' hc'=>by simp only;rw[zhp m1];exact(h.seat k hk).2 c' hc'⟩
theorem zfJ {s:St} (h:RightS s) {L:List Lk} {t:Int} (ht:s.token≤t∧t≤zbB) (h1:SL L) (h2:∀k∈L,zoG k=true∧k.token≤t∧lineB k.line=true∧hasI k.line k.holder=false) (h3:L.Pairwise fun a b=>a.token≠b.token)
  (h4:L.length≤4) (h5:∀k∈L,(zaA s.sess k.holder).isSome=true∧∀c∈k.line,(zaA s.sess c).isSome=true):RightS {s with locks:=L,token:=t}:=
 ⟨h.time,h.num,⟨by have:=h.token;simp only;omega,ht.2⟩,h.ss,h.sok,h.snd,h.sl,h1,h2,h3,h4,h.ms,h.mok,h5⟩
theorem zh3 {s:St} (h:RightS s) {j:Nat} (hj:j<s.locks.length) {k:Lk} {t:Int} (ht:s.token≤t∧t≤zbB) (hn:k.name=s.locks[j].name) (hk:zoG k=true∧k.token≤t∧lineB k.line=true∧hasI k.line k.holder=false)
  (hd:k.token=s.locks[j].token∨s.token<k.token) (hs:(zaA s.sess k.holder).isSome=true∧∀c∈k.line,(zaA s.sess c).isSome=true):RightS {s with locks:=s.locks.set j k,token:=t}:=by
 refine zfJ h ht ?_ ?_ ?_ ?_ ?_
 ·rw[znL,zj8 hj hn];exact znL.1 h.ls
 ·intro x hx
  rcases zj9 hx with rfl|hx
  ·exact hk
  ·obtain⟨a,b,c⟩:=h.lok x hx
   exact⟨a,by omega,c⟩
 ·rw[List.pairwise_iff_getElem]
  intro i m hi hm him
  have hi':i<s.locks.length:=by simpa using hi
  have hm':m<s.locks.length:=by simpa using hm
  have hp:=List.pairwise_iff_getElem.1 h.lnd
  have hb:∀q (hq:q<s.locks.length),s.locks[q].token≤s.token:=fun q hq=>(h.lok _ (List.getElem_mem hq)).2.1
  rw[List.getElem_set,List.getElem_set]
  split
  ·rename_i e
   subst e
   rw[if_neg (by omega)]
   have:=hb m hm'
   rcases hd with hd|hd
   ·rw[hd];exact hp j m hj hm' him
   ·omega
  ·split
   ·rename_i e
    subst e
    have:=hb i hi'
    rcases hd with hd|hd
    ·rw[hd];exact hp i j hi' hj him
    ·omega
   ·exact hp i m hi' hm' him
 ·rw[List.length_set];exact h.ll
 ·intro x hx
  rcases zj9 hx with rfl|hx
  ·exact hs
  ·exact h.seat x hx
theorem zmB {s:St} (h:RightS s) (j:Nat):RightS {s with locks:=s.locks.eraseIdx j,token:=s.token}:=by
 have hsub:(s.locks.eraseIdx j).Sublist s.locks:=List.eraseIdx_sublist ..
 refine zfJ h ⟨Int.le_refl _,h.token.2⟩ (List.Pairwise.sublist hsub h.ls) (fun k hk=>h.lok k (hsub.subset hk)) (List.Pairwise.sublist hsub h.lnd) (Nat.le_trans hsub.length_le h.ll) (fun k hk=>h.seat k (hsub.subset hk))
theorem zi9 {s:St} (h:RightS s) {name:ByteArray} {c:Int} {w:Bool} (hnm:nameP name=true) (hc:isClient c=true) (hf:(zaA s.sess c).isSome=true) (hT:s.token+4≤zbB):
  ((zaR s.locks name c s.token w).2.2=0→RightS {s with locks:=(zaR s.locks name c s.token w).1,token:=s.token+1})∧
  ((zaR s.locks name c s.token w).2.2=10→RightS {s with locks:=(zaR s.locks name c s.token w).1,token:=s.token})∧
  (0≤(zaR s.locks name c s.token w).2.2∧(zaR s.locks name c s.token w).2.2≤10)∧(0≤(zaR s.locks name c s.token w).2.1∧(zaR s.locks name c s.token w).2.1≤3):=by
 have hT0:=h.token
 unfold zaR
 cases hl:zc5 s.locks name with
 |none=>
  simp only
  split
  ·refine⟨fun h=>by simp at h,fun h=>by simp at h,⟨by simp only;decide,by simp only;decide⟩,⟨by simp only;decide,by simp only;decide⟩⟩
  ·rename_i h4
   simp only[decide_eq_true_eq]at h4
   refine⟨fun _=> ?_,fun h=>by simp at h,⟨by simp only;decide,by simp only;decide⟩,⟨by simp only;decide,by simp only;decide⟩⟩
   have hne:∀y∈s.locks,isL name y=false:=by
    intro y hy
    have:=List.find?_eq_none.1 hl y hy
    simpa using this
   refine zfJ h ⟨by omega,by omega⟩ ?_ ?_ ?_ ?_ ?_
   ·refine zgj h.ls (fun y hy=>zh4 (p:=fun x:Lk=>zef x.name name) hy) (fun y hy=> ?_)
    have h1:=zh5 (zmF h.ls name) hy
    have h2:=hne y (List.mem_of_mem_drop hy)
    cases h3:zef name y.name
    ·have:=zt7 h1 h3
     rw[isL,this]at h2
     simp at h2
    ·rfl
   ·intro x hx
    rcases zh0.1 hx with rfl|hx
    ·exact⟨zcr.2 ⟨hnm,zc1.1 hc,by simp only;omega,by simp only;omega⟩,Int.le_refl _,by simp[lineB,zby],rfl⟩
    ·obtain⟨a,b,d⟩:=h.lok x hx
     exact⟨a,by omega,d⟩
   ·refine zgj h.lnd (fun y hy=> ?_) (fun y hy=> ?_)
    ·have:=(h.lok y (List.mem_of_mem_take hy)).2.1;simp only;omega
    ·have:=(h.lok y (List.mem_of_mem_drop hy)).2.1;simp only;omega
   ·rw[zqJ];omega
   ·intro x hx
    rcases zh0.1 hx with rfl|hx
    ·exact⟨hf,fun c hc=>by simp at hc⟩
    ·exact h.seat x hx
 |some k=>
  simp only
  obtain⟨⟨hi,he⟩,hn⟩:=zdf h.ls hl
  have hk:k∈s.locks:=he▸List.getElem_mem hi
  have hlk:=h.lok k hk
  split
  ·refine⟨fun h=>by simp at h,fun h=>by simp at h,⟨by simp only;decide,by simp only;decide⟩,⟨by simp only;decide,by simp only;decide⟩⟩
  ·rename_i hh
   split
   ·refine⟨fun h=>by simp at h,fun h=>by simp at h,⟨by simp only;decide,by simp only;decide⟩,⟨by simp only;decide,by simp only;decide⟩⟩
   ·split
    ·rename_i hin
     obtain⟨g1,g2,g3⟩:=zbF.1 hlk.2.2.1
     refine⟨fun h=>by simp at h,fun _=>h,⟨by simp only;decide,by simp only;decide⟩, ?_⟩
     unfold zlu
     rcases zhr (fun x=>c==x) k.line 0 with⟨q1,q2⟩|⟨q,hq,q1,_⟩
     ·rw[show((0:Nat):Int)=0 from rfl]at q2
      rw[q2];simp
     ·rw[show((0:Nat):Int)=0 from rfl]at q1
      rw[q1];simp;omega
    ·rename_i hin
     split
     ·rename_i hj
      unfold zh8 at hj⊢
      rw[if_neg (by simp[hc]),if_neg (by simpa using hin)]at*
      split
      ·refine⟨fun h=>by simp at h,fun h=>by simp at h,⟨by simp only;decide,by simp only;decide⟩,⟨by simp only;decide,by simp only;decide⟩⟩
      ·rename_i h3;rw[if_neg h3]at hj;simp at hj
     ·rename_i hj
      have h3:¬decide ((k.line.length:Int)≥3)=true:=by
       intro h3
       unfold zh8 at hj
       rw[if_neg (by simp[hc]),if_neg (by simpa using hin),if_pos h3]at hj
       simp at hj
      have ej:zh8 k.line c=(k.line++[c],(k.line.length:Int),0):=by
       unfold zh8
       rw[if_neg (by simp[hc]),if_neg (by simpa using hin),if_neg h3]
      rw[ej]
      simp only[decide_eq_true_eq]at h3
      refine⟨fun h=>by simp at h,fun _=> ?_,⟨by simp only;decide,by simp only;decide⟩,⟨by simp only;omega,by simp only;omega⟩⟩
      obtain⟨g1,g2,g3⟩:=zbF.1 hlk.2.2.1
      have hin':c ∉ k.line:=zcw.1 (by simpa using hin)
      refine zh3 h hi ⟨Int.le_refl _,hT0.2⟩ (by simp only;rw[he]) ⟨?_,hlk.2.1,zbF.2 ⟨?_, ?_, ?_⟩, ?_⟩ (.inl (by simp only;rw[he])) ⟨(h.seat k hk).1, ?_⟩
      ·have:=zcr.1 hlk.1;exact zcr.2 this
      ·simp only[List.length_append,List.length_singleton];omega
      ·intro x hx
       rcases List.mem_append.1 hx with hx|hx
       ·exact g2 x hx
       ·rw[List.mem_singleton]at hx;subst hx;exact hc
      ·rw[List.nodup_append]
       refine⟨g3,by simp,fun a ha b hb=> ?_⟩
       rw[List.mem_singleton]at hb;subst hb
       exact fun e=>hin' (e▸ha)
      ·rw[zcw]
       intro hx
       rcases List.mem_append.1 hx with hx|hx
       ·exact zcw.1 hlk.2.2.2 hx
       ·rw[List.mem_singleton]at hx;rw[hx]at hh;simp at hh
      ·intro x hx
       rcases List.mem_append.1 hx with hx|hx
       ·exact(h.seat k hk).2 x hx
       ·rw[List.mem_singleton]at hx;subst hx;exact hf
theorem zmC {α:Type} {l:List α} {j:Nat} {x:α} (h:x∈l.eraseIdx j):x∈l:=(List.eraseIdx_sublist ..).subset h
theorem zoE {s:St} (h:RightS s) {name:ByteArray} {c:Int} (hT:s.token+4≤zbB):
  ((zbN s.locks name c s.token).2.2=0→RightS {s with locks:=(zbN s.locks name c s.token).1,token:=s.token+(zbN s.locks name c s.token).2.1})∧
  (0≤(zbN s.locks name c s.token).2.2∧(zbN s.locks name c s.token).2.2≤10)∧(0≤(zbN s.locks name c s.token).2.1∧(zbN s.locks name c s.token).2.1≤1):=by
 have hT0:=h.token
 unfold zbN
 cases hl:zc5 s.locks name with
 |none=>exact⟨fun h=>by simp at h,⟨by simp only;decide,by simp only;decide⟩,⟨by simp only;decide,by simp only;decide⟩⟩
 |some k=>
  simp only
  obtain⟨⟨hi,he⟩,hn⟩:=zdf h.ls hl
  have hk:k∈s.locks:=he▸List.getElem_mem hi
  have hlk:=h.lok k hk
  obtain⟨g1,g2,g3⟩:=zbF.1 hlk.2.2.1
  split
  ·unfold zfK
   split
   ·refine⟨fun _=> ?_,⟨by simp only;decide,by simp only;decide⟩,⟨by simp only;decide,by simp only;decide⟩⟩
    simp only[Int.add_zero]
    exact zmB h _
   ·rename_i c0 rest hline
    rw[hline]at g1 g2 g3
    refine⟨fun _=> ?_,⟨by simp only;decide,by simp only;decide⟩,⟨by simp only;decide,by simp only;decide⟩⟩
    have g3':=List.nodup_cons.1 g3
    have hs:=(h.seat k hk).2
    rw[hline]at hs
    simp only[List.length_cons]at g1
    refine zh3 h hi ⟨by simp only;omega,by simp only;omega⟩ (by simp only;rw[he]) ⟨zcr.2 ⟨(zcr.1 hlk.1).1,zc1.1 (g2 _ (List.mem_cons_self ..)),by simp only;omega,by simp only;omega⟩,Int.le_refl _,zbF.2 ⟨by simp only[List.length_cons]at g1⊢;omega,fun x hx=>g2 x (List.mem_cons_of_mem _ hx),g3'.2⟩,zcw.2 g3'.1⟩ (.inr (by simp only;omega)) ⟨hs _ (List.mem_cons_self ..),fun x hx=>hs x (List.mem_cons_of_mem _ hx)⟩
  ·split
   ·refine⟨fun _=> ?_,⟨by simp only;decide,by simp only;decide⟩,⟨by simp only;decide,by simp only;decide⟩⟩
    simp only[Int.add_zero]
    have hle:∀x∈(zgn k.line c).1,x∈k.line:=by
     intro x hx
     unfold zgn at hx
     split at hx
     ·exact hx
     ·exact zmC hx
    have hsub:(zgn k.line c).1.Sublist k.line:=by
     unfold zgn
     split
     ·exact List.Sublist.refl _
     ·exact List.eraseIdx_sublist ..
    refine zh3 h hi ⟨Int.le_refl _,hT0.2⟩ (by simp only;rw[he]) ⟨zcr.2 (zcr.1 hlk.1),hlk.2.1,zbF.2 ⟨Nat.le_trans hsub.length_le g1,fun x hx=>g2 x (hle x hx),g3.sublist hsub⟩, ?_⟩ (.inl (by simp only;rw[he])) ⟨(h.seat k hk).1,fun x hx=>(h.seat k hk).2 x (hle x hx)⟩
    rw[zcw]
    exact fun hx=>zcw.1 hlk.2.2.2 (hle _ hx)
   ·exact⟨fun h=>by simp at h,⟨by simp only;decide,by simp only;decide⟩,⟨by simp only;decide,by simp only;decide⟩⟩
theorem zoF {s:St} (h:RightS s) (a:Memo):RightS {s with memos:=zkb s.memos a}:=by
 unfold zkb
 split
 ·exact h
 ·rename_i hc
  simp only[Bool.or_eq_true,Bool.not_eq_true',not_or,Bool.not_eq_false]at hc
  split
  ·rename_i hf
   obtain⟨x,hx⟩:=Option.isSome_iff_exists.1 hf
   obtain⟨⟨hi,he⟩,hxc⟩:=zsL h.ms hx
   refine⟨h.time,h.num,h.token,h.ss,h.sok,h.snd,h.sl,h.ls,h.lok,h.lnd,h.ll, ?_, ?_,h.seat⟩
   ·rw[znM,zj8 hi (by rw[he,hxc])];exact znM.1 h.ms
   ·intro m hm
    rcases zj9 hm with rfl|hm
    ·exact hc.1
    ·exact h.mok m hm
  ·rename_i hf
   have hne:∀y∈s.memos,y.client≠a.client:=by
    intro y hy e
    refine hf ?_
    unfold zb3
    rw[List.find?_isSome]
    exact⟨y,hy,by simpa using e⟩
   refine⟨h.time,h.num,h.token,h.ss,h.sok,h.snd,h.sl,h.ls,h.lok,h.lnd,h.ll, ?_, ?_,h.seat⟩
   ·refine zgj h.ms (fun y hy=> ?_) (fun y hy=> ?_)
    ·simpa using zh4 hy
    ·have:=zh5 (zqR h.ms a.client) hy
     have:=hne y (List.mem_of_mem_drop hy)
     simp at*;omega
   ·intro m hm
    rcases zh0.1 hm with rfl|hm
    ·exact hc.1
    ·exact h.mok m hm
end Go.Proofs.YtbpmcjeeeiffhaaGreat
