import Derived.Test.YtbpmcjeeeiffhaaGreatVA
namespace Go.Proofs.YtbpmcjeeeiffhaaGreat
open Go.Pk
set_option maxRecDepth 100000
set_option linter.unusedSimpArgs false
set_option linter.unusedVariables false
theorem ztX {l:List Int} {c:Int}:za5 l [c]=l.filter fun x=> !(x==c):=by
 unfold za5 hasI
 congr 1
 funext x
 simp[znz]
theorem zle:∀{l:List Int} {c:Int},l.Nodup→hasI l c=true→(zg5 l c).1=za5 l [c]:=fun {l c} hn hc=>by
 rw[ztX]
 unfold zg5
 rcases zh9 (fun x=>c==x) l 0 with⟨h1,_⟩|⟨k,hk,h2,h3,h4⟩
 ·exfalso
  unfold hasI at hc
  obtain⟨x,hx,hx2⟩:=List.any_eq_true.1 hc
  rw[h1 x hx]at hx2;cases hx2
 ·have h2':zdv (fun x=>c==x) l 0=((0+k:Nat):Int):=h2
  rw[h2',if_neg (by omega)]
  simp only[Nat.zero_add,Int.toNat_natCast]
  have hck:c=l[k]:=by simpa using h3
  subst hck
  clear h2 h2' h3 h4 hc
  induction l generalizing k with
  |nil=>simp at hk
  |cons y l ih=>
   have hn':=List.nodup_cons.1 hn
   cases k with
   |zero=>
    simp only[List.eraseIdx_cons_zero,List.getElem_cons_zero,List.filter_cons,beq_self_eq_true,Bool.not_true,Bool.false_eq_true,if_false]
    refine(List.filter_eq_self.2 fun x hx=> ?_).symm
    have:x≠y:=fun e=>hn'.1 (e▸hx)
    simpa using this
   |succ k=>
    have hk':k<l.length:=by simpa using hk
    simp only[List.eraseIdx_cons_succ,List.getElem_cons_succ,List.filter_cons]
    have:y≠l[k]:=fun e=>hn'.1 (e▸List.getElem_mem hk')
    rw[if_pos (by simpa using this),ih hn'.2 k hk']
set_option maxHeartbeats 4000000 in
theorem zoJ (l:List Lk) (hs:SL l) (hl:l.length<2^30) (hll:∀k∈l,k.line.length<2^30∧k.line.Nodup) (name:ByteArray) (c t:Int) (ht:0≤t∧t<2^62):
  CallOK Tryz.prog 151 [.f (al l.length (zaj l)), .f (ast name), .f (ai c), .f (ai t)]
  (fun r o=>r=[.one (.own 4 (zbT l name c t).1.length (zaj (zbT l name c t).1) false),ri (zbT l name c t).2.1,ri (zbT l name c t).2.2]∧o=[]):=by
 refine CallOK.nil ?_
 refine zac zao mixed (T:=Ty) (n:=101) Tryz.func151 (c:=Tryz.f151.body.getD .skip) rfl Tryz.results151 Tryz.ntmps151 Tryz.call151 ?_
 simp only[Tryz.f151,Option.getD]
 have hco:=zic l hl (fun k hk=>(hll k hk).1)
 have hfi:=ziX l (by omega) name
 rw[zg7 hs]at hfi
 have hwt:IntKind.i64.wrap (t+1)=t+1:=wrap64 (by omega) (by omega)
 cases hf:zdu l name with
 |none=>
  rw[hf]at hfi
  simp only at hfi
  have hm1:decide ((-1:Int)<0)=true:=rfl
  have hfr:zbT l name c t=([],0,6):=by unfold zbT;rw[hf]
  rw[hfr]
  repeat'(first|refine zq (I hm1 @zam) ?_|exact zd (I hm1 @zam)|refine zc (hco) ?_|refine zg (hco) ?_|refine zc (hfi) ?_|refine zg (hfi) ?_|(refine zaa ?_ ?_<;>intro hb)|(refine And.intro ?_ ?_;exact zI)|(refine And.intro ?_ ?_<;>intro hg)|exact zC|fail)
  simp[zp9,zar]
 |some k=>
  rw[hf]at hfi
  simp only at hfi
  obtain⟨⟨hi,he⟩,hn⟩:=zdD hs hf
  have hat:=zaP hi
  rw[he]at hat
  obtain⟨hkl,hkn⟩:=hll k (he▸List.getElem_mem hi)
  have hah:=ziZ k.line (by omega) c
  have hm1:decide ((zbB l name:Int)<0)=false:=by simp
  have hat1:(zaj l).drop (zbB l name*4+1)=iD k.holder::iD k.token:: .sl k.line.length (zaJ k.line)::zaj (l.drop (zbB l name+1)):=by rw[←List.drop_drop,hat];rfl
  have hat3:(zaj l).drop (zbB l name*4+3)= .sl k.line.length (zaJ k.line)::zaj (l.drop (zbB l name+1)):=by rw[←List.drop_drop,hat];rfl
  have hfr:zbT l name c t=if(k.holder==c)=true then((zgp l (zbB l name) k t).1,(zgp l (zbB l name) k t).2,0)else
    if hasI k.line c=true then(l.set (zbB l name) ⟨k.name,k.holder,k.token,(zg5 k.line c).1⟩,0,0)else([],0,6):=by unfold zbT;rw[hf]
  cases h1:(k.holder==c)
  ·have h1':(k.holder !=c)=true:=by rw[bne,h1];rfl
   rw[if_neg (by rw[h1];simp)]at hfr
   cases h3:hasI k.line c
   ·rw[if_neg (by rw[h3];simp)]at hfr
    rw[hfr]
    rw[h3]at hah
    repeat'(first|refine zq (I hm1 (I h1' (I hat1 (I hat3 (I @zmd (I @List.map_cons.{0,0} (I @zaf @zam))))))) ?_|exact zd (I hm1 (I h1' (I hat1 (I hat3 (I @zmd (I @List.map_cons.{0,0} (I @zaf @zam)))))))|refine zc (hco) ?_|refine zg (hco) ?_|refine zc (hfi) ?_|refine zg (hfi) ?_|refine zc (hah) ?_|refine zg (hah) ?_|(refine zaa ?_ ?_<;>intro hb)|(refine And.intro ?_ ?_;exact zI)|(refine And.intro ?_ ?_<;>intro hg)|exact zC|fail)
    simp[zp9,zar]
   ·rw[if_pos h3,zle hkn h3]at hfr
    rw[hfr]
    rw[h3]at hah
    have hwo:=zi0 k.line [c] hkl (by simp)
    have hset:=zgs Lk.enc 4 (fun _=>rfl) hi (k:=3) (by decide) (.sl (za5 k.line [c]).length (zaJ (za5 k.line [c]))) ⟨k.name,k.holder,k.token,za5 k.line [c]⟩ (by rw[he];rfl)
    have hwl:(zaJ (za5 k.line [c])).take ((za5 k.line [c]).length*1)=zaJ (za5 k.line [c]):=List.take_of_length_le (by rw[zah];omega)
    repeat'(first|(with_reducible first|refine zab _ _ ?_|refine zaF ?_|refine zaG ?_)|rw[zay]|simp only[hm1,h1',hat1,hat3,hset,hwl,ztJ,zah,←List.map_drop,List.map_cons,zaf,zam,zY,Int.reduceEq,Int.reduceBEq,Int.reduceBNe,Nat.reduceSub,Nat.reduceEqDiff,Nat.reduceAdd,Nat.reduceMul,Nat.reduceLeDiff,Nat.reduceLT,Nat.reduceBEq,reduceCtorEq]|((first|((try refine zaO ?_);apply za1)|(apply zaX;intro _));(solve|exact(hco)|exact(hfi)|exact(hah)|exact(hwo)|(refine CallOK.le (hco) ?_;exact zM)|(refine CallOK.le (hfi) ?_;exact zM)|(refine CallOK.le (hah) ?_;exact zM)|(refine CallOK.le (hwo) ?_;exact zM)|fail);try case hn=>rfl)|refine zav ?_|refine zaa (fun hb=> ?_) (fun hb=> ?_)|(refine And.intro ?_ ?_;exact zI)|refine And.intro (fun hg=> ?_) (fun hg=> ?_)|exact zC|fail)
    simp[zp9,zar]
  ·have h1':(k.holder !=c)=false:=by rw[bne,h1];rfl
   rw[if_pos h1]at hfr
   rw[hfr]
   unfold zgp
   cases hk:k.line with
   |nil=>
    rw[hk]at hat1 hat3
    simp only[List.length_nil,List.flatMap_nil]at hat1 hat3
    have hE:=zrL Lk.enc 4 (fun _=>rfl) hi
    have hE2:((zaj l).drop ((zbB l name+1)*4)).take ((l.length - (zbB l name+1))*4)=(zaj l).drop ((zbB l name+1)*4):=List.take_of_length_le (by rw[List.length_drop,zaf];omega)
    have hz:(((0:Nat):Int)==0)=true:=rfl
    have hw:IntKind.i64.wrap ((zbB l name:Int)+1)=((zbB l name+1:Nat):Int):=by rw[wrap64 (by omega) (by omega)];omega
    have hq1:((zaj l).take (zbB l name*4)).length=zbB l name*4:=by rw[List.length_take,zaf];omega
    have hq2:((zaj l).drop ((zbB l name+1)*4)).length=(l.length - (zbB l name+1))*4:=by rw[List.length_drop,zaf];omega
    have hB1:(zbB l name*56≤2^47)=True:=eq_true (by omega)
    have hB2:((zbB l name+(l.length - (zbB l name+1)))*56≤2^47)=True:=eq_true (by omega)
    have hB3:(((zbB l name+1:Nat):Int)≤(l.length:Int))=True:=eq_true (by omega)
    have hB4:((zbB l name:Int)≤(l.length:Int))=True:=eq_true (by omega)
    have hB5:(0≤((zbB l name+1:Nat):Int))=True:=eq_true (by omega)
    have hTT:((zaj l).take (zbB l name*4)).take (zbB l name*4)=(zaj l).take (zbB l name*4):=List.take_of_length_le (by omega)
    have hTA:(zaj l).take (zbB l name*4)++(zaj l).drop ((zbB l name+1)*4)=zaj (l.eraseIdx (zbB l name)):=hE.symm
    have hle:(l.eraseIdx (zbB l name)).length=zbB l name+(l.length - (zbB l name+1)):=by rw[List.length_eraseIdx_of_lt hi];omega
    repeat'(first|(with_reducible first|refine zab _ _ ?_|refine zaF ?_|refine zaG ?_)|rw[zay]|simp only[hm1,h1',hat1,hat3,hz,hw,hE2,hq1,hq2,hB1,hB2,hB3,hB4,hB5,hTT,hTA,Int.le_refl,←List.map_drop,List.map_cons,zaf,zam,zY,Int.reduceEq,Int.reduceBEq,Int.reduceBNe,Nat.reduceSub,Nat.reduceEqDiff,Nat.reduceAdd,Nat.reduceMul,Nat.reduceLeDiff,Nat.reduceLT,Nat.reduceBEq,reduceCtorEq]|((first|((try refine zaO ?_);apply za1)|(apply zaX;intro _));(solve|exact(hco)|exact(hfi)|(refine CallOK.le (hco) ?_;exact zM)|(refine CallOK.le (hfi) ?_;exact zM)|fail);try case hn=>rfl)|refine zav ?_|refine zaa (fun hb=> ?_) (fun hb=> ?_)|(refine And.intro ?_ ?_;exact zI)|refine And.intro (fun hg=> ?_) (fun hg=> ?_)|exact zC|fail)
    simp[zp9,zar,hle]
   |cons x rest=>
    rw[hk]at hat1 hat3
    have hz:(((rest.length+1:Nat):Int)==0)=false:=by simp;omega
    have hrl:rest.length<2^30:=by rw[hk,List.length_cons]at hkl;omega
    have hn1:rest.length+1 - 1=rest.length:=rfl
    have hT:(zaJ rest).take rest.length=zaJ rest:=List.take_of_length_le (by rw[zah];exact Nat.le_refl _)
    have hBr:(rest.length*8≤2^47)=True:=eq_true (by omega)
    have hnx:=List.nodup_cons.1 (hk▸hkn)
    have hset1:=zgs Lk.enc 4 (fun _=>rfl) hi (k:=1) (by decide) (iD x) ⟨k.name,x,k.token,x::rest⟩ (by rw[he,←hk];rfl)
    obtain⟨l1,hl1⟩:∃l1,l1=l.set (zbB l name) ⟨k.name,x,k.token,x::rest⟩:=⟨_,rfl⟩
    have hi1:zbB l name<l1.length:=by rw[hl1];simpa using hi
    have hg1:l1[zbB l name]=⟨k.name,x,k.token,x::rest⟩:=by simp[hl1]
    have hset2:=zgs Lk.enc 4 (fun _=>rfl) hi1 (k:=3) (by decide) (.sl rest.length (zaJ rest)) ⟨k.name,x,k.token,rest⟩ (by rw[hg1];rfl)
    obtain⟨l2,hl2⟩:∃l2,l2=l1.set (zbB l name) ⟨k.name,x,k.token,rest⟩:=⟨_,rfl⟩
    have hi2:zbB l name<l2.length:=by rw[hl2];simpa using hi1
    have hg2:l2[zbB l name]=⟨k.name,x,k.token,rest⟩:=by simp[hl2]
    have hset3:=zgs Lk.enc 4 (fun _=>rfl) hi2 (k:=2) (by decide) (iD (t+1)) ⟨k.name,x,t+1,rest⟩ (by rw[hg2];rfl)
    have hl3:l2.set (zbB l name) ⟨k.name,x,t+1,rest⟩=l.set (zbB l name) ⟨k.name,x,t+1,rest⟩:=by rw[hl2,hl1,List.set_set,List.set_set]
    rw[←hl1]at hset1
    rw[←hl2]at hset2
    rw[hl3]at hset3
    have hat3':=zaP hi1
    rw[hg1]at hat3'
    have hat3':(zaj l1).drop (zbB l name*4+3)= .sl (x::rest).length (zaJ (x::rest))::zaj (l1.drop (zbB l name+1)):=by rw[←List.drop_drop,hat3'];rfl
    have hll1:l1.length=l.length:=by rw[hl1,List.length_set]
    repeat'(first|refine zq (I hm1 (I h1' (I hat1 (I hat3 (I hat3' (I hz (I hwt (I hset1 (I hset2 (I hset3 (I @zah (I hn1 (I hT (I hBr (I hll1 (I @zmd (I @List.map_cons.{0,0} (I @zaf @zam)))))))))))))))))) ?_|exact zd (I hm1 (I h1' (I hat1 (I hat3 (I hat3' (I hz (I hwt (I hset1 (I hset2 (I hset3 (I @zah (I hn1 (I hT (I hBr (I hll1 (I @zmd (I @List.map_cons.{0,0} (I @zaf @zam))))))))))))))))))|refine zc (hco) ?_|refine zg (hco) ?_|refine zc (hfi) ?_|refine zg (hfi) ?_|(refine zaa ?_ ?_<;>intro hb)|(refine And.intro ?_ ?_;exact zI)|(refine And.intro ?_ ?_<;>intro hg)|exact zC|fail)
    simp[zp9,zar]
theorem zxa {l m:List Lk} (h:SL l) (hs:(m.map Lk.name).Sublist (l.map Lk.name)):SL m:=by
 have h1:(l.map Lk.name).Pairwise fun a b=>zeM a b=true:=List.pairwise_map.2 h
 exact List.pairwise_map.1 (h1.sublist hs)
theorem zwb {gone:List Int} {l:List Lk}:(l.map (zas gone)).map Lk.name=l.map Lk.name:=by rw[List.map_map];rfl
theorem zwc {l:List Lk} (hs:SL l) {i:Nat} (hi:i<l.length):zdu l l[i].name=some l[i]∧zbB l l[i].name=i:=by
 have hself:∀x:Lk,isL x.name x=true:=fun x=>by simp[isL]
 have hne:∀{a b:Nat} (ha:a<l.length) (hb:b<l.length),a<b→l[a].name.toList=l[b].name.toList→False:=fun ha hb hab h=>by
  have:=List.pairwise_iff_getElem.1 hs _ _ ha hb hab
  simp only[zeM,h,zj4]at this
  cases this
 have key:∀{j:Nat} (hj:j<l.length),isL l[i].name l[j]=true→j=i:=fun {j} hj h=>by
  simp only[isL,beq_iff_eq]at h
  rcases Nat.lt_trichotomy j i with h1|h1|h1
  ·exact(hne hj hi h1 h).elim
  ·exact h1
  ·exact(hne hi hj h1 h.symm).elim
 cases hf:zdu l l[i].name with
 |none=>exact absurd (hself l[i]) (List.find?_eq_none.1 hf _ (List.getElem_mem hi))
 |some x=>
  obtain⟨⟨hp,he⟩,hx⟩:=zdD hs hf
  have:=key hp (by rw[he];exact hx)
  refine⟨?_,this⟩
  rw[←he]
  simp only[this]
theorem zwd {gone:List Int} {k:Lk} (h:k.line.length<2^30∧k.line.Nodup):(zas gone k).line.length<2^30∧(zas gone k).line.Nodup:=
 ⟨Nat.lt_of_le_of_lt (List.length_filter_le ..) h.1,h.2.filter _⟩
set_option maxHeartbeats 4000000 in
theorem ztW (l:List Lk) (hs:SL l) (hl:l.length<2^30) (hll:∀k∈l,k.line.length<2^30∧k.line.Nodup) (gone:List Int) (hg:gone.length<2^30) (t:Int) (ht:0≤t∧t≤2^61):
  CallOK Tryz.prog 144 [.f (al l.length (zaj l)), .f (al gone.length (zaJ gone)), .f (ai t)]
  (fun r o=>r=[.one (.own 4 (zed l gone t).1.length (zaj (zed l gone t).1) false),ri (zed l gone t).2]∧o=[]):=by
 refine zac zao mixed (T:=Ty) (n:=72) Tryz.func144 (c:=Tryz.f144.body.getD .skip) rfl Tryz.results144 Tryz.ntmps144 Tryz.call144 ?_
 simp only[Tryz.f144,Option.getD]
 have hco:=zic l hl (fun k hk=>(hll k hk).1)
 repeat'(first|refine zq (I @zaf @zam) ?_|exact zd (I @zaf @zam)|refine zc (hco) ?_|refine zg (hco) ?_|(refine zaa ?_ ?_<;>intro hb)|(refine And.intro ?_ ?_;exact zI)|(refine And.intro ?_ ?_<;>intro hg)|exact zC|fail)
 refine zai (τ:=Nat) (fun i=>⟨[al l.length (zaj l),al gone.length (zaJ gone),ai t,dd,dd,dd,dd,dd, .one (.own ⟨8,1,1⟩ 0 l.length),ai i,dd,dd,dd,dd,dd,dd,dd,dd,dd,dd,dd,dd,dd,dd,dd,dd,dd,dd,dd,dd,dd,dd,dd,dd,dd,dd,dd,dd,dd,dd,dd,dd,dd,dd,dd,dd,dd,dd,dd,dd,dd,dd,dd,dd,dd,dd,dd,dd,dd,dd,dd,dd,dd,dd,dd,dd,dd,dd,dd,dd,dd,dd],[(16,⟨2,[]⟩),(8,{next:=2,l:=[none,some {e:=1,var:=false,fz:=false,sz:=4,cells:=(zaj (curL l gone i)).map C.d}]}),(31,⟨2,[]⟩)]⟩)
  (fun i=>i≤l.length) (fun _=>()) (fun i=>l.length - i) 0
  (Gh.canon [8] [31] [] zK rfl rfl) (Nat.zero_le _) ?_
 intro i hi0 hF K hK
 refine zw ?_
 refine zaa (fun hlt=> ?_) (fun hge=> ?_)
 ·have hi:i<l.length:=by simpa using hlt
  obtain⟨hic,hce⟩:=zv6 (gone:=gone) hi
  have hat:=zaP hic
  rw[hce]at hat
  have hat2:(zaj (curL l gone i)).drop (i*4+3)= .sl l[i].line.length (zaJ l[i].line)::zaj ((curL l gone i).drop (i+1)):=by rw[←List.drop_drop,hat];rfl
  have hw:=zak hi (by omega)
  have hwo:=zi0 l[i].line gone (hll _ (List.getElem_mem hi)).1 hg
  have hset:=zgs Lk.enc 4 (fun _=>rfl) hic (k:=3) (by decide) (.sl (za5 l[i].line gone).length (zaJ (za5 l[i].line gone))) (zas gone l[i]) (by rw[hce];rfl)
  rw[zrR hi]at hset
  have hwl:(zaJ (za5 l[i].line gone)).take ((za5 l[i].line gone).length*1)=zaJ (za5 l[i].line gone):=List.take_of_length_le (by rw[zah];omega)
  repeat'(first|(with_reducible first|refine zab _ _ ?_|refine zaF ?_|refine zaG ?_)|rw[zay]|simp only[hat2,hset,hwl,ztJ,←List.map_drop,List.map_cons,zaf,ztN hi0,zY,Int.reduceEq,Int.reduceBEq,Int.reduceBNe,Nat.reduceSub,Nat.reduceEqDiff,Nat.reduceAdd,Nat.reduceMul,Nat.reduceLeDiff,Nat.reduceLT,Nat.reduceBEq,reduceCtorEq]|((first|((try refine zaO ?_);apply za1)|(apply zaX;intro _));(solve|exact(hwo)|(refine CallOK.le (hwo) ?_;exact zM)|fail);try case hn=>rfl)|refine zav ?_|refine zaa (fun hb=> ?_) (fun hb=> ?_)|(refine And.intro ?_ ?_;exact zI)|refine And.intro (fun hg=> ?_) (fun hg=> ?_)|exact zC|fail)
  exact hK _ (i+1) (Gh.canon [8] [] [] (zk hw) rfl rfl) hi rfl (by omega)
 ·have hi:i=l.length:=by
   have:¬(i:Int)<l.length:=by simpa using hge
   omega
  rw[hi,ztO]
  have hdP:zed l gone t=zb8 gone t (l.map (zas gone)) 0:=rfl
  rw[hdP]
  obtain⟨W,hW⟩:∃W,W=l.map (zas gone):=⟨_,rfl⟩
  have hWl:W.length=l.length:=by rw[hW,List.length_map]
  have hWn:W.map Lk.name=l.map Lk.name:=by rw[hW];exact zwb
  have hWg:∀(j:Nat) (hj:j<l.length),W[j]'(by omega)=zas gone l[j]:=fun j hj=>by simp[hW]
  have hWk:∀k∈W,k.line.length<2^30∧k.line.Nodup:=fun k hk=>by
   rw[hW]at hk
   obtain⟨k0,hk0,rfl⟩:=List.mem_map.1 hk
   exact zwd (hll k0 hk0)
  rw[←hW]
  clear hdP hW
  repeat'(first|refine zq0 ?_|exact zd0|(refine zaa ?_ ?_<;>intro hb)|(refine And.intro ?_ ?_;exact zI)|(refine And.intro ?_ ?_<;>intro hg)|exact zC|fail)
  refine zai (τ:=List Lk×Nat×Int) (fun q=>⟨[al l.length (zaj l),al gone.length (zaJ gone),ai t,dd,dd,dd,dd,dd, .one (.own ⟨8,1,1⟩ 0 (q.1++W.drop q.2.1).length),dd,ai q.2.2,ai q.2.1,dd,dd,dd,dd,dd,dd,dd,dd,dd,dd,dd,dd,dd,dd,dd,dd,dd,dd,dd,dd,dd,dd,dd,dd,dd,dd,dd,dd,dd,dd,dd,dd,dd,dd,dd,dd,dd,dd,dd,dd,dd,dd,dd,dd,dd,dd,dd,dd,dd,dd,dd,dd,dd,dd,dd,dd,dd,dd,dd,dd],[(16,⟨2,[]⟩),(8,{next:=2,l:=[none,some {e:=1,var:=false,fz:=false,sz:=4,cells:=(zaj (q.1++W.drop q.2.1)).map C.d}]}),(31,⟨2,[]⟩),(12,⟨2,[]⟩),(62,⟨2,[]⟩)]⟩)
   (fun q=>q.2.1≤l.length∧(0≤q.2.2∧q.2.2≤q.2.1)∧(q.1.map Lk.name).Sublist ((l.take q.2.1).map Lk.name)∧∀k∈q.1,k.line.length<2^30∧k.line.Nodup)
   (fun q=>(q.1++(zb8 gone t (W.drop q.2.1) q.2.2).1,(zb8 gone t (W.drop q.2.1) q.2.2).2)) (fun q=>l.length - q.2.1) ([],0,0)
   (Gh.canon [8] [12,62] [] (zk (I @List.drop_zero.{0} (I @List.nil_append.{0} hWl))) rfl rfl) ⟨Nat.zero_le _,⟨Int.le_refl _,Int.le_refl _⟩,List.nil_sublist _,by simp⟩ ?_
  rintro⟨L,i,g⟩ ⟨j1,j2,j3,j4⟩ hF K hK
  simp only[List.drop_zero,List.nil_append]at j1 j2 j3 j4 hF hK⊢
  refine zw ?_
  refine zaa (fun hlt=> ?_) (fun hge=> ?_)
  ·have hi:i<l.length:=by simpa using hlt
   have hat:=zaP hi
   have hat1:(zaj l).drop (i*4+1)=iD l[i].holder::iD l[i].token:: .sl l[i].line.length (zaJ l[i].line)::zaj (l.drop (i+1)):=by rw[←List.drop_drop,hat];rfl
   have hin:=ztP gone (by omega) l[i].holder
   have hw:=zak hi (by omega)
   have hiw:i<W.length:=by omega
   have hgw:=hWg i hi
   have hdr:=zpD (gone:=gone) (t:=t) (g:=g) hiw
   rw[hgw]at hdr
   have hdc:W.drop i=zas gone l[i]::W.drop (i+1):=by rw[List.drop_eq_getElem_cons hiw,hgw]
   have hL:L.length≤i:=by have:=j3.length_le;simp only[List.length_map,List.length_take]at this;omega
   have htk:(l.take (i+1)).map Lk.name=(l.take i).map Lk.name++[l[i].name]:=by rw[←List.take_append_getElem hi,List.map_append];rfl
   cases hh:hasI gone l[i].holder
   ·rw[hh]at hin
    rw[show hasI gone (zas gone l[i]).holder=false from hh,if_neg (by simp)]at hdr
    have hMe:L++W.drop i=L++[zas gone l[i]]++W.drop (i+1):=by rw[hdc];simp
    obtain⟨M,hM⟩:∃M,M=L++W.drop i:=⟨_,rfl⟩
    rw[←hM]
    rw[hMe]at hM
    repeat'(first|refine zq (I hat (I hat1 (I @zaf zca))) ?_|exact zd (I hat (I hat1 (I @zaf zca)))|refine zc (hin) ?_|refine zg (hin) ?_|(refine zaa ?_ ?_<;>intro hb)|(refine And.intro ?_ ?_;exact zI)|(refine And.intro ?_ ?_<;>intro hg)|exact zC|fail)
    rw[hM]
    refine hK _ (L++[zas gone l[i]],i+1,g) (Gh.canon [8] [] [] (zk hw) rfl rfl) ⟨hi,⟨j2.1,by simp only;omega⟩, ?_, ?_⟩ ?_ (by simp only;omega)
    ·simp only[htk,List.map_append,List.map_cons,List.map_nil]
     exact j3.append (List.Sublist.refl _)
    ·intro k hk
     rcases List.mem_append.1 hk with hk|hk
     ·exact j4 k hk
     ·rw[List.mem_singleton.1 hk];exact zwd (hll _ (List.getElem_mem hi))
    ·simp only;rw[hdr];simp
   ·rw[hh]at hin
    rw[show hasI gone (zas gone l[i]).holder=true from hh,if_pos rfl]at hdr
    -- the row,as it stands
    obtain⟨M,hM⟩:∃M,M=L++W.drop i:=⟨_,rfl⟩
    have hMl:M.length=L.length+(l.length - i):=by rw[hM,List.length_append,List.length_drop,hWl]
    have hMs:SL M:=zxa hs (by
     rw[hM,List.map_append,List.map_drop,hWn,←List.map_drop]
     have:=j3.append (List.Sublist.refl ((l.drop i).map Lk.name))
     rwa[show(l.take i).map Lk.name++(l.drop i).map Lk.name=l.map Lk.name from by rw[←List.map_append,List.take_append_drop]]at this)
    have hMk:∀k∈M,k.line.length<2^30∧k.line.Nodup:=fun k hk=>by
     rw[hM]at hk
     rcases List.mem_append.1 hk with hk|hk
     ·exact j4 k hk
     ·exact hWk k (List.mem_of_mem_drop hk)
    have hMi:L.length<M.length:=by omega
    have hMg:M[L.length]=zas gone l[i]:=by
     subst hM
     rw[List.getElem_append_right (Nat.le_refl _)]
     simp only[Nat.sub_self,List.getElem_drop,Nat.add_zero]
     exact hgw
    obtain⟨hf1,hf2⟩:=zwc hMs hMi
    rw[hMg]at hf1 hf2
    have hf1:zdu M l[i].name=some (zas gone l[i]):=hf1
    have hf2:zbB M l[i].name=L.length:=hf2
    have hfr:=zoJ M hMs (by omega) hMk l[i].name l[i].holder (t+g) (by omega)
    have hwt:IntKind.i64.wrap (t+g)=t+g:=wrap64 (by omega) (by omega)
    have hfp:zbT M l[i].name l[i].holder (t+g)=((zgp M L.length (zas gone l[i]) (t+g)).1,(zgp M L.length (zas gone l[i]) (t+g)).2,0):=by
     unfold zbT
     rw[hf1,hf2]
     simp only
     rw[if_pos (show((zas gone l[i]).holder==l[i].holder)=true from by simp[zas])]
    rw[hfp]at hfr
    rw[←hM]
    clear hlt
    cases hline:(zas gone l[i]).line with
    |nil=>
     rw[hline]at hdr
     simp only at hdr
     have hp:zgp M L.length (zas gone l[i]) (t+g)=(M.eraseIdx L.length,0):=by unfold zgp;rw[hline]
     rw[hp]at hfr
     have hg0:IntKind.i64.wrap (g+0)=g:=by rw[Int.add_zero];exact wrap64 (by omega) (by omega)
     have hMe:M.eraseIdx L.length=L++W.drop (i+1):=by rw[hM,List.eraseIdx_append_of_length_le (Nat.le_refl _),Nat.sub_self,hdc];rfl
     rw[hMe]at hfr
     repeat'(first|refine zq (I hat (I hat1 (I hwt (I @zaf (I @zam zca))))) ?_|exact zd (I hat (I hat1 (I hwt (I @zaf (I @zam zca)))))|refine zc (hin) ?_|refine zg (hin) ?_|refine zc (hfr) ?_|refine zg (hfr) ?_|(refine zaa ?_ ?_<;>intro hb)|(refine And.intro ?_ ?_;exact zI)|(refine And.intro ?_ ?_<;>intro hg)|exact zC|fail)
     refine hK _ (L,i+1,g) (Gh.canon [8] [] [] (zk (I hw hg0)) rfl rfl) ⟨hi,⟨j2.1,by simp only;omega⟩, ?_,j4⟩ ?_ (by simp only;omega)
     ·simp only[htk]
      exact j3.trans (List.sublist_append_left _ _)
     ·simp only;rw[hdr]
    |cons x rest=>
     rw[hline]at hdr
     simp only at hdr
     have hp:zgp M L.length (zas gone l[i]) (t+g)=(M.set L.length ⟨l[i].name,x,t+g+1,rest⟩,1):=by unfold zgp;rw[hline];rfl
     rw[hp]at hfr
     have hg1:IntKind.i64.wrap (g+1)=g+1:=wrap64 (by omega) (by omega)
     have hMe:M.set L.length ⟨l[i].name,x,t+g+1,rest⟩=L++[⟨l[i].name,x,t+g+1,rest⟩]++W.drop (i+1):=by rw[hM,List.set_append_right _ _ (Nat.le_refl _),Nat.sub_self,hdc];simp
     rw[hMe]at hfr
     repeat'(first|refine zq (I hat (I hat1 (I hwt (I @zaf (I @zam zca))))) ?_|exact zd (I hat (I hat1 (I hwt (I @zaf (I @zam zca)))))|refine zc (hin) ?_|refine zg (hin) ?_|refine zc (hfr) ?_|refine zg (hfr) ?_|(refine zaa ?_ ?_<;>intro hb)|(refine And.intro ?_ ?_;exact zI)|(refine And.intro ?_ ?_<;>intro hg)|exact zC|fail)
     refine hK _ (L++[⟨l[i].name,x,t+g+1,rest⟩],i+1,g+1) (Gh.canon [8] [] [] (zk (I hw hg1)) rfl rfl) ⟨hi,⟨by simp only;omega,by simp only;omega⟩, ?_, ?_⟩ ?_ (by simp only;omega)
     ·simp only[htk,List.map_append,List.map_cons,List.map_nil]
      exact j3.append (List.Sublist.refl _)
     ·intro k hk
      rcases List.mem_append.1 hk with hk|hk
      ·exact j4 k hk
      ·rw[List.mem_singleton.1 hk]
       have:=zwd (gone:=gone) (hll _ (List.getElem_mem hi))
       rw[hline]at this
       exact⟨by have:=this.1;simp only[List.length_cons]at this⊢;omega,(List.nodup_cons.1 this.2).2⟩
     ·simp only;rw[hdr];simp[zas]
  ·have hi:i=l.length:=by
    have:¬(i:Int)<l.length:=by simpa using hge
    omega
   subst hi
   have hd0:W.drop l.length=[]:=List.drop_eq_nil_of_le (by omega)
   rw[hd0]at hF⊢
   simp only[zb8,List.append_nil]at hF⊢
   have e1:L=(zb8 gone t W 0).1:=congrArg Prod.fst hF
   have e2:g=(zb8 gone t W 0).2:=congrArg Prod.snd hF
   rw[←e1,←e2]
   repeat'(first|refine zq0 ?_|exact zd0|(refine zaa ?_ ?_<;>intro hb)|(refine And.intro ?_ ?_;exact zI)|(refine And.intro ?_ ?_<;>intro hg)|exact zC|fail)
structure RightS (s:St):Prop where
 time:0≤s.time∧s.time≤zbD
 num:0≤s.num∧s.num≤zbD
 token:0≤s.token∧s.token≤zbD
 ss:SS s.sess
 sok:∀x∈s.sess,zgc x=true∧x.num≤s.num
 snd:s.sess.Pairwise fun a b=>a.num≠b.num
 sl:s.sess.length≤5
 ls:SL s.locks
 lok:∀k∈s.locks,znu k=true∧k.token≤s.token∧lineB k.line=true∧hasI k.line k.holder=false
 lnd:s.locks.Pairwise fun a b=>a.token≠b.token
 ll:s.locks.length≤4
 ms:SM s.memos
 mok:∀m∈s.memos,answerB m=true
 seat:∀k∈s.locks,(zaE s.sess k.holder).isSome=true∧∀c∈k.line,(zaE s.sess c).isSome=true
theorem zd4 {α:Type} {r:α→α→Prop} (ht:∀a b c,r a b→r b c→r a c):∀{l:List α},(∀j (hj:j<l.length),0<j→r (l[j - 1]'(by omega)) l[j])→l.Pairwise r
 |[],_=>List.Pairwise.nil
 |[x],_=>by simp
 |x::y::l,h=>by
  have h1:r x y:=h 1 (by simp) (by decide)
  have ih:(y::l).Pairwise r:=zd4 ht fun j hj h0=>by
   have:=h (j+1) (by simpa using hj) (by omega)
   obtain⟨k,rfl⟩:∃k,j=k+1:=⟨j - 1,by omega⟩
   simpa using this
  refine List.pairwise_cons.2 ⟨fun z hz=> ?_,ih⟩
  rcases List.mem_cons.1 hz with rfl|hz
  ·exact h1
  ·exact ht _ _ _ h1 ((List.pairwise_cons.1 ih).1 z hz)
theorem zd5 {α:Type} {r:α→α→Prop} {l:List α} (h:l.Pairwise r) (j:Nat) (hj:j<l.length) (h0:0<j):r (l[j - 1]'(by omega)) l[j]:=
 List.pairwise_iff_getElem.1 h (j - 1) j (by omega) hj (by omega)
theorem zfR {α:Type} {l:List α} {i:Nat} {p:α→Bool} (hi:i<l.length):(l.take i).any p=false↔∀j (hj:j<l.length),j<i→p l[j]=false:=by
 rw[List.any_eq_false]
 constructor
 ·intro h j hj hji
  have hm:l[j]∈l.take i:=by
   rw[List.mem_take_iff_getElem]
   exact⟨j,by omega,rfl⟩
  simpa using h _ hm
 ·intro h x hx
  rw[List.mem_take_iff_getElem]at hx
  obtain⟨j,hj,rfl⟩:=hx
  simp[h j (by omega) (by omega)]
theorem zml {l:List Sess}:sessB l=true↔l.length≤5∧(∀x∈l,zgc x=true)∧SS l∧l.Pairwise fun a b=>a.num≠b.num:=by
 unfold sessB
 rw[Bool.and_eq_true,zcN]
 simp only[Nat.zero_add,Bool.not_eq_true',decide_eq_false_iff_not]
 constructor
 ·rintro⟨h1,h2⟩
  have q:∀j (hj:j<l.length),zgc l[j]=true∧(0<j→zpw l j<l[j].client)∧(∀k (hk:k<l.length),k<j→l[k].num≠l[j].num):=by
   intro j hj
   have:=h2 j hj
   unfold zgo at this
   simp only[Bool.and_eq_true,Bool.not_eq_true',Bool.or_eq_false_iff,Bool.and_eq_false_iff,decide_eq_false_iff_not]at this
   obtain⟨a,b,c⟩:=this
   refine⟨a,fun h0=> ?_,fun k hk hkj=> ?_⟩
   ·rcases b with b|b
    ·omega
    ·omega
   ·have:=(zfR hj).1 c k hk hkj
    simpa using this
  refine⟨by omega,fun x hx=> ?_, ?_, ?_⟩
  ·obtain⟨j,hj,rfl⟩:=List.getElem_of_mem hx
   exact(q j hj).1
  ·refine zd4 (fun a b c h1 h2=>by omega) fun j hj h0=> ?_
   have:=(q j hj).2.1 h0
   unfold zpw at this
   rw[List.getElem?_eq_getElem (by omega)]at this
   simpa using this
  ·rw[List.pairwise_iff_getElem]
   intro i j hi hj hij
   exact(q j hj).2.2 i hi hij
 ·rintro⟨h1,h2,h3,h4⟩
  refine⟨by omega,fun j hj=> ?_⟩
  unfold zgo
  simp only[Bool.and_eq_true,Bool.not_eq_true',Bool.or_eq_false_iff,Bool.and_eq_false_iff,decide_eq_false_iff_not]
  refine⟨h2 _ (List.getElem_mem hj), ?_, ?_⟩
  ·by_cases h0:0<j
   ·right
    have:=zd5 h3 j hj h0
    unfold zpw
    rw[List.getElem?_eq_getElem (by omega)]
    simpa using this
   ·left;omega
  ·exact(zfR hj).2 fun k hk hkj=>by
    have:=List.pairwise_iff_getElem.1 h4 k j hk hj hkj
    simpa using this
theorem zbN {l:List Int}:lineB l=true↔l.length≤3∧(∀c∈l,isClient c=true)∧l.Nodup:=by
 unfold lineB
 rw[Bool.and_eq_true,zcN]
 simp only[Nat.zero_add,decide_eq_true_eq]
 constructor
 ·rintro⟨h1,h2⟩
  have q:∀j (hj:j<l.length),isClient l[j]=true∧(∀k (hk:k<l.length),k<j→l[k]≠l[j]):=by
   intro j hj
   have:=h1 j hj
   unfold zmm at this
   simp only[Bool.not_eq_true',Bool.or_eq_false_iff,Bool.not_eq_false']at this
   refine⟨this.1,fun k hk hkj=> ?_⟩
   have h3:=(zfR hj).1 this.2 k hk hkj
   have h4:¬l[j]=l[k]:=by simpa using h3
   exact fun h=>h4 h.symm
  refine⟨by omega,fun x hx=> ?_, ?_⟩
  ·obtain⟨j,hj,rfl⟩:=List.getElem_of_mem hx
   exact(q j hj).1
  ·unfold List.Nodup
   rw[List.pairwise_iff_getElem]
   intro i j hi hj hij
   exact(q j hj).2 i hi hij
 ·rintro⟨h1,h2,h3⟩
  refine⟨fun j hj=> ?_,by omega⟩
  unfold zmm
  simp only[Bool.not_eq_true',Bool.or_eq_false_iff,Bool.not_eq_false']
  refine⟨h2 _ (List.getElem_mem hj), ?_⟩
  exact(zfR hj).2 fun k hk hkj=>by
   unfold List.Nodup at h3
   have:=List.pairwise_iff_getElem.1 h3 k j hk hj hkj
   simpa using fun h=>this h.symm
theorem zrD {l:List Lk}:lockB l=true↔l.length≤4∧(∀k∈l,znu k=true∧lineB k.line=true∧hasI k.line k.holder=false)∧SL l∧l.Pairwise fun a b=>a.token≠b.token:=by
 unfold lockB
 rw[Bool.and_eq_true,zcN]
 simp only[Nat.zero_add,decide_eq_true_eq]
 constructor
 ·rintro⟨h1,h2⟩
  have q:∀j (hj:j<l.length),(znu l[j]=true∧lineB l[j].line=true∧hasI l[j].line l[j].holder=false)∧(0<j→zeM (zpx l j) l[j].name=true)∧(∀k (hk:k<l.length),k<j→l[k].token≠l[j].token):=by
   intro j hj
   have:=h1 j hj
   unfold zg2 at this
   simp only[Bool.and_eq_true,Bool.not_eq_true',Bool.or_eq_false_iff,Bool.and_eq_false_iff,decide_eq_false_iff_not,Bool.not_eq_false']at this
   obtain⟨⟨a,⟨b1,b2⟩,b3⟩,c⟩:=this
   refine⟨⟨a,b1,b2⟩,fun h0=> ?_,fun k hk hkj=> ?_⟩
   ·rcases b3 with b|b
    ·omega
    ·exact b
   ·have:=(zfR hj).1 c k hk hkj
    simpa using this
  refine⟨by omega,fun x hx=> ?_, ?_, ?_⟩
  ·obtain⟨j,hj,rfl⟩:=List.getElem_of_mem hx
   exact(q j hj).1
  ·refine zd4 (r:=fun x y:Lk=>zeM x.name y.name=true) (fun a b c h1 h2=>zh7 h1 h2) fun j hj h0=> ?_
   have:=(q j hj).2.1 h0
   unfold zpx at this
   rw[List.getElem?_eq_getElem (by omega)]at this
   simpa using this
  ·rw[List.pairwise_iff_getElem]
   intro i j hi hj hij
   exact(q j hj).2.2 i hi hij
 ·rintro⟨h1,h2,h3,h4⟩
  refine⟨fun j hj=> ?_,by omega⟩
  unfold zg2
  simp only[Bool.and_eq_true,Bool.not_eq_true',Bool.or_eq_false_iff,Bool.and_eq_false_iff,decide_eq_false_iff_not,Bool.not_eq_false']
  obtain⟨a,b,c⟩:=h2 _ (List.getElem_mem hj)
  refine⟨⟨a,⟨b,c⟩, ?_⟩, ?_⟩
  ·by_cases h0:0<j
   ·right
    have:=zd5 h3 j hj h0
    unfold zpx
    rw[List.getElem?_eq_getElem (by omega)]
    simpa using this
   ·left;omega
  ·exact(zfR hj).2 fun k hk hkj=>by
    have:=List.pairwise_iff_getElem.1 h4 k j hk hj hkj
    simpa using this
theorem zrE {l:List Memo}:memoB l=true↔(∀m∈l,answerB m=true)∧SM l:=by
 unfold memoB
 rw[zcN]
 simp only[Nat.zero_add]
 constructor
 ·intro h1
  have q:∀j (hj:j<l.length),answerB l[j]=true∧(0<j→zpy l j<l[j].client):=by
   intro j hj
   have:=h1 j hj
   unfold zg3 at this
   simp only[Bool.not_eq_true',Bool.or_eq_false_iff,Bool.and_eq_false_iff,decide_eq_false_iff_not,Bool.not_eq_false']at this
   refine⟨this.1,fun h0=> ?_⟩
   rcases this.2 with b|b
   ·omega
   ·omega
  refine⟨fun x hx=> ?_, ?_⟩
  ·obtain⟨j,hj,rfl⟩:=List.getElem_of_mem hx
   exact(q j hj).1
  ·refine zd4 (fun a b c h1 h2=>by omega) fun j hj h0=> ?_
   have:=(q j hj).2 h0
   unfold zpy at this
   rw[List.getElem?_eq_getElem (by omega)]at this
   simpa using this
 ·rintro⟨h2,h3⟩ j hj
  unfold zg3
  simp only[Bool.not_eq_true',Bool.or_eq_false_iff,Bool.and_eq_false_iff,decide_eq_false_iff_not,Bool.not_eq_false']
  refine⟨h2 _ (List.getElem_mem hj), ?_⟩
  by_cases h0:0<j
  ·right
   have:=zd5 h3 j hj h0
   unfold zpy
   rw[List.getElem?_eq_getElem (by omega)]
   simpa using this
  ·left;omega
theorem zcv {s:St}:zb2 s=true↔RightS s:=by
 unfold zb2 zfs within
 simp only[Bool.and_eq_true,decide_eq_true_eq,zml,zrD,zrE,List.all_eq_true,List.mem_cons,forall_eq_or_imp]
 constructor
 ·rintro⟨⟨⟨⟨⟨⟨⟨⟨h1,h2⟩,h3⟩,a,b,c,d⟩,e,f,g,h⟩,i,j⟩,k⟩,l⟩,m⟩
  exact⟨h1,h2,h3,c,fun x hx=>⟨b x hx,k x hx⟩,d,a,g,fun k hk=>⟨(f k hk).1,l k hk,(f k hk).2⟩,h,e,j,i,m⟩
 ·intro h
  exact⟨⟨⟨⟨⟨⟨⟨⟨h.time,h.num⟩,h.token⟩,h.sl,fun x hx=>(h.sok x hx).1,h.ss,h.snd⟩,h.ll,fun k hk=>⟨(h.lok k hk).1,(h.lok k hk).2.2⟩,h.ls,h.lnd⟩,h.mok,h.ms⟩,fun x hx=>(h.sok x hx).2⟩,fun k hk=>(h.lok k hk).2.1⟩,h.seat⟩
theorem ztF {l:List Int} {v:Int}:hasI l v=true↔v∈l:=by
 unfold hasI
 simp[List.any_eq_true]
theorem zcM {l:List Int} {v:Int}:hasI l v=false↔v ∉ l:=by
 rw[←Bool.not_eq_true,ztF]
theorem zdg {l:List Sess} {c:Int}:(zaE l c).isSome=true↔∃x∈l,x.client=c:=by
 unfold zaE
 simp
theorem zgZ {α:Type} {r:α→α→Prop} {l:List α} {x:α} {k:Nat} (hl:l.Pairwise r) (h1:∀y∈l.take k,r y x) (h2:∀y∈l.drop k,r x y):(l.take k++x::l.drop k).Pairwise r:=by
 rw[←List.take_append_drop k l]at hl
 obtain⟨a,b,c⟩:=List.pairwise_append.1 hl
 refine List.pairwise_append.2 ⟨a,List.pairwise_cons.2 ⟨h2,b⟩,fun y hy z hz=> ?_⟩
 rcases List.mem_cons.1 hz with rfl|hz
 ·exact h1 y hy
 ·exact c y hy z hz
theorem ziS {α:Type} {p:α→Bool} {l:List α} {y:α} (h:y∈l.take (zoF p l)):p y=true:=by
 rw[List.mem_take_iff_getElem]at h
 obtain⟨j,hj,rfl⟩:=h
 exact zk6 (by omega) (by omega)
theorem ziT {α:Type} {p:α→Bool} {l:List α} {y:α} (hm:zwv p l) (h:y∈l.drop (zoF p l)):p y=false:=by
 obtain⟨j,hj,rfl⟩:=List.getElem_of_mem h
 rw[List.getElem_drop]
 exact zk7 _ hm (by omega)
theorem zk3 {α β:Type} {f:α→β} {l:List α} {j:Nat} {x:α} (hj:j<l.length) (h:f x=f l[j]):(l.set j x).map f=l.map f:=by
 rw[List.map_set,h]
 apply List.ext_getElem (by simp)
 intro k h1 h2
 rw[List.getElem_set]
 split
 ·rename_i e;subst e;simp
 ·rfl
theorem zk4 {α:Type} {l:List α} {j:Nat} {x y:α} (h:y∈l.set j x):y=x∨y∈l:=by
 rcases List.mem_or_eq_of_mem_set h with h|h
 ·exact .inr h
 ·exact .inl h
theorem zu6 {l:List Sess}:SS l↔(l.map Sess.client).Pairwise (·<·):=by unfold SS;rw[List.pairwise_map]
theorem zoD {l:List Lk}:SL l↔(l.map Lk.name).Pairwise (fun a b=>zeM a b=true):=by unfold SL;rw[List.pairwise_map]
theorem zoE {l:List Memo}:SM l↔(l.map Memo.client).Pairwise (·<·):=by unfold SM;rw[List.pairwise_map]
theorem zex (gone:List Int) (token:Int):∀(l:List Lk) (g:Int),0≤g→
  (g≤(zb8 gone token l g).2∧(zb8 gone token l g).2≤g+l.length)∧((zb8 gone token l g).1.map Lk.name).Sublist (l.map Lk.name)∧
  (∀k∈(zb8 gone token l g).1,(k∈l∧hasI gone k.holder=false)∨(token+g<k.token∧k.token≤token+(zb8 gone token l g).2∧∃k0∈l,k0.name=k.name∧k0.line=k.holder::k.line))∧
  ((∀k∈l,k.token≤token)→(l.Pairwise fun a b=>a.token≠b.token)→(zb8 gone token l g).1.Pairwise fun a b=>a.token≠b.token)
 |[],g,hg=>by simp[zb8]
 |k::r,g,hg=>by
  cases hk:hasI gone k.holder
  ·obtain⟨⟨a1,a2⟩,b,c,d⟩:=zex gone token r g hg
   have e:zb8 gone token (k::r) g=(k::(zb8 gone token r g).1,(zb8 gone token r g).2):=by rw[zb8,if_neg (by simp[hk])]
   rw[e]
   refine⟨⟨a1,by simp only[List.length_cons];omega⟩,b.cons_cons _,fun x hx=> ?_,fun ht hp=> ?_⟩
   ·rcases List.mem_cons.1 hx with rfl|hx
    ·exact .inl ⟨List.mem_cons_self ..,hk⟩
    ·rcases c x hx with⟨h1,h2⟩|⟨h1,h2,k0,h3,h4⟩
     ·exact .inl ⟨List.mem_cons_of_mem _ h1,h2⟩
     ·exact .inr ⟨h1,h2,k0,List.mem_cons_of_mem _ h3,h4⟩
   ·have hp':=List.pairwise_cons.1 hp
    have hkt:=ht k (List.mem_cons_self ..)
    refine List.pairwise_cons.2 ⟨fun x hx=> ?_,d (fun x hx=>ht x (List.mem_cons_of_mem _ hx)) hp'.2⟩
    rcases c x hx with⟨h1,h2⟩|⟨h1,h2,k0,h3,h4⟩
    ·exact hp'.1 x h1
    ·omega
  ·cases hl:k.line with
   |nil=>
    obtain⟨⟨a1,a2⟩,b,c,d⟩:=zex gone token r g hg
    have e:zb8 gone token (k::r) g=zb8 gone token r g:=by rw[zb8,if_pos hk,hl]
    rw[e]
    refine⟨⟨a1,by simp only[List.length_cons];omega⟩,b.cons _,fun x hx=> ?_,fun ht hp=> ?_⟩
    ·rcases c x hx with⟨h1,h2⟩|⟨h1,h2,k0,h3,h4⟩
     ·exact .inl ⟨List.mem_cons_of_mem _ h1,h2⟩
     ·exact .inr ⟨h1,h2,k0,List.mem_cons_of_mem _ h3,h4⟩
    ·exact d (fun x hx=>ht x (List.mem_cons_of_mem _ hx)) (List.pairwise_cons.1 hp).2
   |cons c0 rest=>
    obtain⟨⟨a1,a2⟩,b,c,d⟩:=zex gone token r (g+1) (by omega)
    have e:zb8 gone token (k::r) g=(⟨k.name,c0,token+g+1,rest⟩::(zb8 gone token r (g+1)).1,(zb8 gone token r (g+1)).2):=by rw[zb8,if_pos hk,hl]
    rw[e]
    refine⟨⟨by simp only;omega,by simp only[List.length_cons];omega⟩,b.cons_cons _,fun x hx=> ?_,fun ht hp=> ?_⟩
    ·rcases List.mem_cons.1 hx with rfl|hx
     ·exact .inr ⟨by simp only;omega,by simp only;omega,k,List.mem_cons_self ..,rfl,hl⟩
     ·rcases c x hx with⟨h1,h2⟩|⟨h1,h2,k0,h3,h4⟩
      ·exact .inl ⟨List.mem_cons_of_mem _ h1,h2⟩
      ·exact .inr ⟨by omega,h2,k0,List.mem_cons_of_mem _ h3,h4⟩
    ·have hp':=List.pairwise_cons.1 hp
     refine List.pairwise_cons.2 ⟨fun x hx=> ?_,d (fun x hx=>ht x (List.mem_cons_of_mem _ hx)) hp'.2⟩
     simp only
     rcases c x hx with⟨h1,h2⟩|⟨h1,h2,k0,h3,h4⟩
     ·have:=ht x (List.mem_cons_of_mem _ h1);omega
     ·omega
theorem zcG {k:Lk}:znu k=true↔nameP k.name=true∧(0≤k.holder∧k.holder<8)∧1≤k.token∧k.token≤zbD:=by
 unfold znu
 simp only[Bool.and_eq_true,Bool.not_eq_true',decide_eq_false_iff_not]
 constructor
 ·rintro⟨⟨⟨⟨a,b⟩,c⟩,d⟩,e⟩;exact⟨a,⟨by omega,by omega⟩,by omega,by omega⟩
 ·rintro⟨a,⟨b,c⟩,d,e⟩;exact⟨⟨⟨⟨a,by omega⟩,by omega⟩,by omega⟩,by omega⟩
theorem zdm {c:Int}:isClient c=true↔0≤c∧c<8:=by
 unfold isClient;simp
theorem zd3 {l gone:List Int} {c:Int}:c∈za5 l gone↔c∈l∧hasI gone c=false:=by
 unfold za5;simp
theorem zg0 {s:St} (h:RightS s) (gone:List Int) (hT:s.token+4≤zbD):RightS (zbF s gone)∧s.token≤(zbF s gone).token∧(zbF s gone).token≤s.token+4:=by
 obtain⟨⟨a1,a2⟩,b,c,d⟩:=zex gone s.token (s.locks.map (zas gone)) 0 (Int.le_refl _)
 have hlen:((s.locks.map (zas gone)).length:Int)≤4:=by rw[List.length_map];have:=h.ll;omega
 have hl1:∀k∈s.locks.map (zas gone),znu k=true∧k.token≤s.token∧lineB k.line=true∧hasI k.line k.holder=false∧(∀c∈k.line,hasI gone c=false)∧(zaE s.sess k.holder).isSome=true∧∀c∈k.line,(zaE s.sess c).isSome=true:=by
  intro k hk
  obtain⟨k0,hk0,rfl⟩:=List.mem_map.1 hk
  obtain⟨e1,e2,e3,e4⟩:=h.lok k0 hk0
  obtain⟨f1,f2⟩:=h.seat k0 hk0
  obtain⟨g1,g2,g3⟩:=zbN.1 e3
  refine⟨e1,e2,zbN.2 ⟨?_,fun c hc=>g2 c (zd3.1 hc).1, ?_⟩, ?_,fun c hc=>(zd3.1 hc).2,f1,fun c hc=>f2 c (zd3.1 hc).1⟩
  ·exact Nat.le_trans (List.length_filter_le ..) g1
  ·exact g3.sublist (List.filter_sublist ..)
  ·rw[zcM]at e4⊢
   exact fun hc=>e4 (zd3.1 hc).1
 have hfind:∀c,(zaE s.sess c).isSome=true→hasI gone c=false→(zaE (s.sess.filter fun x=> !hasI gone x.client) c).isSome=true:=by
  intro c hc hg
  obtain⟨x,hx,rfl⟩:=zdg.1 hc
  exact zdg.2 ⟨x,List.mem_filter.2 ⟨hx,by simp[hg]⟩,rfl⟩
 have hok:∀k∈(zed s.locks gone s.token).1,znu k=true∧k.token≤s.token+(zed s.locks gone s.token).2∧lineB k.line=true∧hasI k.line k.holder=false∧(hasI gone k.holder=false∧∀c∈k.line,hasI gone c=false)∧(zaE s.sess k.holder).isSome=true∧∀c∈k.line,(zaE s.sess c).isSome=true:=by
  intro k hk
  rcases c k hk with⟨h1,h2⟩|⟨h1,h2,k0,h3,h4,h5⟩
  ·obtain⟨e1,e2,e3,e4,e5,e6,e7⟩:=hl1 k h1
   refine⟨e1, ?_,e3,e4,⟨h2,e5⟩,e6,e7⟩
   have:0≤(zed s.locks gone s.token).2:=a1
   omega
  ·obtain⟨e1,e2,e3,e4,e5,e6,e7⟩:=hl1 k0 h3
   rw[h5]at e3 e5 e7
   obtain⟨g1,g2,g3⟩:=zbN.1 e3
   have g3':=List.nodup_cons.1 g3
   have i1:=zcG.1 e1
   have i2:=zdm.1 (g2 k.holder (List.mem_cons_self ..))
   have a2':(zed s.locks gone s.token).2≤4:=by have:(zed s.locks gone s.token).2=(zb8 gone s.token (s.locks.map (zas gone)) 0).2:=rfl;omega
   have h2':k.token≤s.token+(zed s.locks gone s.token).2:=h2
   have:=h.token
   refine⟨zcG.2 ⟨h4▸i1.1,i2,by omega,by omega⟩,h2',zbN.2 ⟨?_,fun c hc=>g2 c (List.mem_cons_of_mem _ hc),g3'.2⟩,zcM.2 g3'.1,⟨e5 _ (List.mem_cons_self ..),fun c hc=>e5 c (List.mem_cons_of_mem _ hc)⟩,e7 _ (List.mem_cons_self ..),fun c hc=>e7 c (List.mem_cons_of_mem _ hc)⟩
   simp only[List.length_cons]at g1;omega
 have hnm:(s.locks.map (zas gone)).map Lk.name=s.locks.map Lk.name:=by rw[List.map_map];rfl
 have a2':(zed s.locks gone s.token).2≤4:=by have:(zed s.locks gone s.token).2=(zb8 gone s.token (s.locks.map (zas gone)) 0).2:=rfl;omega
 have a1':0≤(zed s.locks gone s.token).2:=a1
 have hT0:=h.token
 refine⟨⟨h.time,h.num,⟨by simp only[zbF];omega,by simp only[zbF];omega⟩, ?_, ?_, ?_, ?_, ?_, ?_, ?_, ?_,h.ms,h.mok, ?_⟩,by simp only[zbF];omega,by simp only[zbF];omega⟩
 ·exact List.Pairwise.sublist (List.filter_sublist ..) h.ss
 ·exact fun x hx=>h.sok x (List.mem_filter.1 hx).1
 ·exact List.Pairwise.sublist (List.filter_sublist ..) h.snd
 ·exact Nat.le_trans (List.length_filter_le ..) h.sl
 ·rw[zoD]
  rw[hnm]at b
  exact List.Pairwise.sublist b (zoD.1 h.ls)
 ·exact fun k hk=>⟨(hok k hk).1,(hok k hk).2.1,(hok k hk).2.2.1,(hok k hk).2.2.2.1⟩
 ·refine d (fun k hk=>(hl1 k hk).2.1) ?_
  rw[List.pairwise_map]
  exact h.lnd
 ·have:=b.length_le
  rw[hnm,List.length_map,List.length_map]at this
  exact Nat.le_trans this h.ll
 ·intro k hk
  obtain⟨_,_,_,_,⟨g1,g2⟩,f1,f2⟩:=hok k hk
  exact⟨hfind _ f1 g1,fun c hc=>hfind c (f2 c hc) (g2 c hc)⟩
theorem zg1 {s:St} (h:RightS s) (time lease:Int) (hT:s.token+4≤zbD):
  RightS (zcw s time lease)∧s.token≤(zcw s time lease).token∧(zcw s time lease).token≤s.token+4∧(zcw s time lease).num=s.num∧s.time≤(zcw s time lease).time:=by
 have ht:s.time≤zey s time∧zey s time≤zbD:=by
  have:=h.time
  unfold zey
  split
  ·rename_i hc;simp at hc;omega
  ·omega
 have h':RightS {s with time:=zey s time}:=⟨⟨by have:=h.time;simp only;omega,ht.2⟩,h.num,h.token,h.ss,h.sok,h.snd,h.sl,h.ls,h.lok,h.lnd,h.ll,h.ms,h.mok,h.seat⟩
 obtain⟨a,b,c⟩:=zg0 h' (zrF s.sess (zey s time) (max lease 1)) hT
 exact⟨a,b,c,rfl,ht.1⟩
theorem ziO {α:Type} {l:List α} {k:Nat} {x y:α}:y∈l.take k++x::l.drop k↔y=x∨y∈l:=by
 rw[List.mem_append,List.mem_cons]
 constructor
 ·rintro(h|h|h)
  ·exact .inr (List.mem_of_mem_take h)
  ·exact .inl h
  ·exact .inr (List.mem_of_mem_drop h)
 ·rintro(h|h)
  ·exact .inr (.inl h)
  ·rw[←List.take_append_drop k l]at h
   rcases List.mem_append.1 h with h|h
   ·exact .inl h
   ·exact .inr (.inr h)
theorem zrC {α:Type} {l:List α} {k:Nat} {x:α}:(l.take k++x::l.drop k).length=l.length+1:=by
 simp only[List.length_append,List.length_take,List.length_cons,List.length_drop];omega
theorem zb0 {x:Sess}:zgc x=true↔isClient x.client=true∧(1≤x.num∧x.num≤zbD)∧0≤x.renewed∧x.renewed≤zbD:=by
 unfold zgc
 simp only[Bool.and_eq_true,Bool.not_eq_true',decide_eq_false_iff_not]
 constructor
 ·rintro⟨⟨⟨⟨a,b⟩,c⟩,d⟩,e⟩;exact⟨a,⟨by omega,by omega⟩,by omega,by omega⟩
 ·rintro⟨a,⟨b,c⟩,d,e⟩;exact⟨⟨⟨⟨a,by omega⟩,by omega⟩,by omega⟩,by omega⟩
theorem zgX {s:St} (h:RightS s):numbered s.sess (s.num+1)=false:=by
 unfold numbered
 rw[List.any_eq_false]
 intro x hx
 have:=(h.sok x hx).2
 simp;omega
theorem zoC {s:St} (h:RightS s) {c:Int} (hc:isClient c=true) (hN:s.num+1≤zbD) (hf:zaE s.sess c=none):
  zdC s.sess c (s.num+1) s.time=if s.sess.length≥5 then([],5)else(s.sess.take (zgq s.sess c)++⟨c,s.num+1,s.time⟩::s.sess.drop (zgq s.sess c),0):=by
 unfold zdC
 have h1:=h.num
 have h2:=h.time
 rw[if_neg (by
  rw[zgX h,hc,hf]
  have e1:decide (s.num+1<1)=false:=by simp;omega
  have e2:decide (s.num+1>zbD)=false:=by simp;omega
  have e3:decide (s.time<0)=false:=by simp;omega
  have e4:decide (s.time>zbD)=false:=by simp;omega
  rw[e1,e2,e3,e4];simp),if_neg (by rw[hf];simp)]
 by_cases h5:s.sess.length≥5
 ·rw[if_pos (by simp;omega),if_pos h5]
 ·rw[if_neg (by simp;omega),if_neg h5]
theorem zpt {s:St} (h:RightS s) {c:Int} (hc:isClient c=true) (hN:s.num+1≤zbD) (hf:zaE s.sess c=none) (h5:s.sess.length<5):
  RightS {s with sess:=s.sess.take (zgq s.sess c)++⟨c,s.num+1,s.time⟩::s.sess.drop (zgq s.sess c),num:=s.num+1}:=by
 have h1:=h.num
 have h2:=h.time
 have hne:∀y∈s.sess,y.client≠c:=by
  intro y hy he
  have:(zaE s.sess c).isSome=true:=zdg.2 ⟨y,hy,he⟩
  rw[hf]at this;cases this
 refine⟨h.time,⟨by simp only;omega,hN⟩,h.token, ?_, ?_, ?_, ?_,h.ls,h.lok,h.lnd,h.ll,h.ms,h.mok, ?_⟩
 ·refine zgZ h.ss (fun y hy=> ?_) (fun y hy=> ?_)
  ·simpa using ziS hy
  ·have:=ziT (znw h.ss c) hy
   have:=hne y (List.mem_of_mem_drop hy)
   simp at*;omega
 ·intro x hx
  rcases ziO.1 hx with rfl|hx
  ·exact⟨zb0.2 ⟨hc,⟨by simp only;omega,hN⟩,h2⟩,Int.le_refl _⟩
  ·exact⟨(h.sok x hx).1,by have:=(h.sok x hx).2;simp only;omega⟩
 ·refine zgZ h.snd (fun y hy=> ?_) (fun y hy=> ?_)
  ·have:=(h.sok y (List.mem_of_mem_take hy)).2;simp only;omega
  ·have:=(h.sok y (List.mem_of_mem_drop hy)).2;simp only;omega
 ·simp only[zrC];omega
 ·intro k hk
  have:∀c',(zaE s.sess c').isSome=true→(zaE (s.sess.take (zgq s.sess c)++⟨c,s.num+1,s.time⟩::s.sess.drop (zgq s.sess c)) c').isSome=true:=fun c' hc'=>by
   obtain⟨x,hx,e⟩:=zdg.1 hc'
   exact zdg.2 ⟨x,ziO.2 (.inr hx),e⟩
  exact⟨this _ (h.seat k hk).1,fun c' hc'=>this _ ((h.seat k hk).2 c' hc')⟩
theorem zgY {s:St} (h:RightS s) {c:Int} {x:Sess} (hf:zaE s.sess c=some x):zcC s.sess c s.time=(s.sess.set (zgq s.sess c) ⟨x.client,x.num,max x.renewed s.time⟩,0):=by
 have:=h.time
 unfold zcC
 rw[if_neg (by simp;omega),hf]
theorem ziP {s:St} (h:RightS s) {c:Int} {x:Sess} (hf:zaE s.sess c=some x):
  (s.sess.set (zgq s.sess c) ⟨x.client,x.num,max x.renewed s.time⟩).map Sess.client=s.sess.map Sess.client∧(s.sess.set (zgq s.sess c) ⟨x.client,x.num,max x.renewed s.time⟩).map Sess.num=s.sess.map Sess.num:=by
 obtain⟨⟨hi,he⟩,_⟩:=zk8 h.ss hf
 exact⟨zk3 hi (by rw[he]),zk3 hi (by rw[he])⟩
theorem zh6 {l m:List Sess} (h:l.map Sess.client=m.map Sess.client) (c:Int):(zaE l c).isSome=(zaE m c).isSome:=by
 have key:∀l:List Sess,(zaE l c).isSome=(l.map Sess.client).any fun x=>x==c:=fun l=>by
  rw[List.any_map,Bool.eq_iff_iff,zdg,List.any_eq_true]
  simp
 rw[key,key,h]
theorem ziQ {s:St} (h:RightS s) {c:Int} {x:Sess} (hf:zaE s.sess c=some x):RightS {s with sess:=(zcC s.sess c s.time).1}:=by
 rw[zgY h hf]
 simp only
 obtain⟨⟨hi,he⟩,hxc⟩:=zk8 h.ss hf
 obtain⟨m1,m2⟩:=ziP h hf
 have hx:x∈s.sess:=he▸List.getElem_mem hi
 refine⟨h.time,h.num,h.token, ?_, ?_, ?_, ?_,h.ls,h.lok,h.lnd,h.ll,h.ms,h.mok, ?_⟩
 ·rw[zu6,m1];exact zu6.1 h.ss
 ·intro y hy
  rcases zk4 hy with rfl|hy
  ·obtain⟨a,b⟩:=h.sok x hx
   obtain⟨a1,a2,a3,a4⟩:=zb0.1 a
   have:=h.time
   exact⟨zb0.2 ⟨a1,a2,by simp only;omega,by simp only;omega⟩,b⟩
  ·exact h.sok y hy
 ·have:((s.sess.set (zgq s.sess c) ⟨x.client,x.num,max x.renewed s.time⟩).map Sess.num).Pairwise (·≠·):=by rw[m2,List.pairwise_map];exact h.snd
  rwa[List.pairwise_map]at this
 ·simp only[List.length_set];exact h.sl
 ·intro k hk
  exact⟨by simp only;rw[zh6 m1];exact(h.seat k hk).1,fun c' hc'=>by simp only;rw[zh6 m1];exact(h.seat k hk).2 c' hc'⟩
theorem zgn {s:St} (h:RightS s) {L:List Lk} {t:Int} (ht:s.token≤t∧t≤zbD) (h1:SL L) (h2:∀k∈L,znu k=true∧k.token≤t∧lineB k.line=true∧hasI k.line k.holder=false) (h3:L.Pairwise fun a b=>a.token≠b.token)
  (h4:L.length≤4) (h5:∀k∈L,(zaE s.sess k.holder).isSome=true∧∀c∈k.line,(zaE s.sess c).isSome=true):RightS {s with locks:=L,token:=t}:=
 ⟨h.time,h.num,⟨by have:=h.token;simp only;omega,ht.2⟩,h.ss,h.sok,h.snd,h.sl,h1,h2,h3,h4,h.ms,h.mok,h5⟩
theorem ziR {s:St} (h:RightS s) {j:Nat} (hj:j<s.locks.length) {k:Lk} {t:Int} (ht:s.token≤t∧t≤zbD) (hn:k.name=s.locks[j].name) (hk:znu k=true∧k.token≤t∧lineB k.line=true∧hasI k.line k.holder=false)
  (hd:k.token=s.locks[j].token∨s.token<k.token) (hs:(zaE s.sess k.holder).isSome=true∧∀c∈k.line,(zaE s.sess c).isSome=true):RightS {s with locks:=s.locks.set j k,token:=t}:=by
 refine zgn h ht ?_ ?_ ?_ ?_ ?_
 ·rw[zoD,zk3 hj hn];exact zoD.1 h.ls
 ·intro x hx
  rcases zk4 hx with rfl|hx
  ·exact hk
  ·obtain⟨a,b,c⟩:=h.lok x hx
   exact⟨a,by omega,c⟩
 ·rw[List.pairwise_iff_getElem]
  intro i m hi hm him
  have hi':i<s.locks.length:=by simpa using hi
  have hm':m<s.locks.length:=by simpa using hm
  have hp:=List.pairwise_iff_getElem.1 h.lnd
  have hb:∀q (hq:q<s.locks.length),s.locks[q].token≤s.token:=fun q hq=>(h.lok _ (List.getElem_mem hq)).2.1
  rw[List.getElem_set,List.getElem_set]
  split
  ·rename_i e
   subst e
   rw[if_neg (by omega)]
   have:=hb m hm'
   rcases hd with hd|hd
   ·rw[hd];exact hp j m hj hm' him
   ·omega
  ·split
   ·rename_i e
    subst e
    have:=hb i hi'
    rcases hd with hd|hd
    ·rw[hd];exact hp i j hi' hj him
    ·omega
   ·exact hp i m hi' hm' him
 ·rw[List.length_set];exact h.ll
 ·intro x hx
  rcases zk4 hx with rfl|hx
  ·exact hs
  ·exact h.seat x hx
theorem zns {s:St} (h:RightS s) (j:Nat):RightS {s with locks:=s.locks.eraseIdx j,token:=s.token}:=by
 have hsub:(s.locks.eraseIdx j).Sublist s.locks:=List.eraseIdx_sublist ..
 refine zgn h ⟨Int.le_refl _,h.token.2⟩ (List.Pairwise.sublist hsub h.ls) (fun k hk=>h.lok k (hsub.subset hk)) (List.Pairwise.sublist hsub h.lnd) (Nat.le_trans hsub.length_le h.ll) (fun k hk=>h.seat k (hsub.subset hk))
theorem zj3 {s:St} (h:RightS s) {name:ByteArray} {c:Int} {w:Bool} (hnm:nameP name=true) (hc:isClient c=true) (hf:(zaE s.sess c).isSome=true) (hT:s.token+4≤zbD):
  ((za2 s.locks name c s.token w).2.2=0→RightS {s with locks:=(za2 s.locks name c s.token w).1,token:=s.token+1})∧
  ((za2 s.locks name c s.token w).2.2=10→RightS {s with locks:=(za2 s.locks name c s.token w).1,token:=s.token})∧
  (0≤(za2 s.locks name c s.token w).2.2∧(za2 s.locks name c s.token w).2.2≤10)∧(0≤(za2 s.locks name c s.token w).2.1∧(za2 s.locks name c s.token w).2.1≤3):=by
 have hT0:=h.token
 unfold za2
 cases hl:zdu s.locks name with
 |none=>
  simp only
  split
  ·refine⟨fun h=>by simp at h,fun h=>by simp at h,⟨by simp only;decide,by simp only;decide⟩,⟨by simp only;decide,by simp only;decide⟩⟩
  ·rename_i h4
   simp only[decide_eq_true_eq]at h4
   refine⟨fun _=> ?_,fun h=>by simp at h,⟨by simp only;decide,by simp only;decide⟩,⟨by simp only;decide,by simp only;decide⟩⟩
   have hne:∀y∈s.locks,isL name y=false:=by
    intro y hy
    have:=List.find?_eq_none.1 hl y hy
    simpa using this
   refine zgn h ⟨by omega,by omega⟩ ?_ ?_ ?_ ?_ ?_
   ·refine zgZ h.ls (fun y hy=>ziS (p:=fun x:Lk=>zeM x.name name) hy) (fun y hy=> ?_)
    have h1:=ziT (znx h.ls name) hy
    have h2:=hne y (List.mem_of_mem_drop hy)
    cases h3:zeM name y.name
    ·have:=zrI h1 h3
     rw[isL,this]at h2
     simp at h2
    ·rfl
   ·intro x hx
    rcases ziO.1 hx with rfl|hx
    ·exact⟨zcG.2 ⟨hnm,zdm.1 hc,by simp only;omega,by simp only;omega⟩,Int.le_refl _,by simp[lineB,zbb],rfl⟩
    ·obtain⟨a,b,d⟩:=h.lok x hx
     exact⟨a,by omega,d⟩
   ·refine zgZ h.lnd (fun y hy=> ?_) (fun y hy=> ?_)
    ·have:=(h.lok y (List.mem_of_mem_take hy)).2.1;simp only;omega
    ·have:=(h.lok y (List.mem_of_mem_drop hy)).2.1;simp only;omega
   ·rw[zrC];omega
   ·intro x hx
    rcases ziO.1 hx with rfl|hx
    ·exact⟨hf,fun c hc=>by simp at hc⟩
    ·exact h.seat x hx
 |some k=>
  simp only
  obtain⟨⟨hi,he⟩,hn⟩:=zdD h.ls hl
  have hk:k∈s.locks:=he▸List.getElem_mem hi
  have hlk:=h.lok k hk
  split
  ·refine⟨fun h=>by simp at h,fun h=>by simp at h,⟨by simp only;decide,by simp only;decide⟩,⟨by simp only;decide,by simp only;decide⟩⟩
  ·rename_i hh
   split
   ·refine⟨fun h=>by simp at h,fun h=>by simp at h,⟨by simp only;decide,by simp only;decide⟩,⟨by simp only;decide,by simp only;decide⟩⟩
   ·split
    ·rename_i hin
     obtain⟨g1,g2,g3⟩:=zbN.1 hlk.2.2.1
     refine⟨fun h=>by simp at h,fun _=>h,⟨by simp only;decide,by simp only;decide⟩, ?_⟩
     unfold zmn
     rcases zh9 (fun x=>c==x) k.line 0 with⟨q1,q2⟩|⟨q,hq,q1,_⟩
     ·rw[show((0:Nat):Int)=0 from rfl]at q2
      rw[q2];simp
     ·rw[show((0:Nat):Int)=0 from rfl]at q1
      rw[q1];simp;omega
    ·rename_i hin
     split
     ·rename_i hj
      unfold ziW at hj⊢
      rw[if_neg (by simp[hc]),if_neg (by simpa using hin)]at*
      split
      ·refine⟨fun h=>by simp at h,fun h=>by simp at h,⟨by simp only;decide,by simp only;decide⟩,⟨by simp only;decide,by simp only;decide⟩⟩
      ·rename_i h3;rw[if_neg h3]at hj;simp at hj
     ·rename_i hj
      have h3:¬decide ((k.line.length:Int)≥3)=true:=by
       intro h3
       unfold ziW at hj
       rw[if_neg (by simp[hc]),if_neg (by simpa using hin),if_pos h3]at hj
       simp at hj
      have ej:ziW k.line c=(k.line++[c],(k.line.length:Int),0):=by
       unfold ziW
       rw[if_neg (by simp[hc]),if_neg (by simpa using hin),if_neg h3]
      rw[ej]
      simp only[decide_eq_true_eq]at h3
      refine⟨fun h=>by simp at h,fun _=> ?_,⟨by simp only;decide,by simp only;decide⟩,⟨by simp only;omega,by simp only;omega⟩⟩
      obtain⟨g1,g2,g3⟩:=zbN.1 hlk.2.2.1
      have hin':c ∉ k.line:=zcM.1 (by simpa using hin)
      refine ziR h hi ⟨Int.le_refl _,hT0.2⟩ (by simp only;rw[he]) ⟨?_,hlk.2.1,zbN.2 ⟨?_, ?_, ?_⟩, ?_⟩ (.inl (by simp only;rw[he])) ⟨(h.seat k hk).1, ?_⟩
      ·have:=zcG.1 hlk.1;exact zcG.2 this
      ·simp only[List.length_append,List.length_singleton];omega
      ·intro x hx
       rcases List.mem_append.1 hx with hx|hx
       ·exact g2 x hx
       ·rw[List.mem_singleton]at hx;subst hx;exact hc
      ·rw[List.nodup_append]
       refine⟨g3,by simp,fun a ha b hb=> ?_⟩
       rw[List.mem_singleton]at hb;subst hb
       exact fun e=>hin' (e▸ha)
      ·rw[zcM]
       intro hx
       rcases List.mem_append.1 hx with hx|hx
       ·exact zcM.1 hlk.2.2.2 hx
       ·rw[List.mem_singleton]at hx;rw[hx]at hh;simp at hh
      ·intro x hx
       rcases List.mem_append.1 hx with hx|hx
       ·exact(h.seat k hk).2 x hx
       ·rw[List.mem_singleton]at hx;subst hx;exact hf
theorem znt {α:Type} {l:List α} {j:Nat} {x:α} (h:x∈l.eraseIdx j):x∈l:=(List.eraseIdx_sublist ..).subset h
theorem zpu {s:St} (h:RightS s) {name:ByteArray} {c:Int} (hT:s.token+4≤zbD):
  ((zbT s.locks name c s.token).2.2=0→RightS {s with locks:=(zbT s.locks name c s.token).1,token:=s.token+(zbT s.locks name c s.token).2.1})∧
  (0≤(zbT s.locks name c s.token).2.2∧(zbT s.locks name c s.token).2.2≤10)∧(0≤(zbT s.locks name c s.token).2.1∧(zbT s.locks name c s.token).2.1≤1):=by
 have hT0:=h.token
 unfold zbT
 cases hl:zdu s.locks name with
 |none=>exact⟨fun h=>by simp at h,⟨by simp only;decide,by simp only;decide⟩,⟨by simp only;decide,by simp only;decide⟩⟩
 |some k=>
  simp only
  obtain⟨⟨hi,he⟩,hn⟩:=zdD h.ls hl
  have hk:k∈s.locks:=he▸List.getElem_mem hi
  have hlk:=h.lok k hk
  obtain⟨g1,g2,g3⟩:=zbN.1 hlk.2.2.1
  split
  ·unfold zgp
   split
   ·refine⟨fun _=> ?_,⟨by simp only;decide,by simp only;decide⟩,⟨by simp only;decide,by simp only;decide⟩⟩
    simp only[Int.add_zero]
    exact zns h _
   ·rename_i c0 rest hline
    rw[hline]at g1 g2 g3
    refine⟨fun _=> ?_,⟨by simp only;decide,by simp only;decide⟩,⟨by simp only;decide,by simp only;decide⟩⟩
    have g3':=List.nodup_cons.1 g3
    have hs:=(h.seat k hk).2
    rw[hline]at hs
    simp only[List.length_cons]at g1
    refine ziR h hi ⟨by simp only;omega,by simp only;omega⟩ (by simp only;rw[he]) ⟨zcG.2 ⟨(zcG.1 hlk.1).1,zdm.1 (g2 _ (List.mem_cons_self ..)),by simp only;omega,by simp only;omega⟩,Int.le_refl _,zbN.2 ⟨by simp only[List.length_cons]at g1⊢;omega,fun x hx=>g2 x (List.mem_cons_of_mem _ hx),g3'.2⟩,zcM.2 g3'.1⟩ (.inr (by simp only;omega)) ⟨hs _ (List.mem_cons_self ..),fun x hx=>hs x (List.mem_cons_of_mem _ hx)⟩
  ·split
   ·refine⟨fun _=> ?_,⟨by simp only;decide,by simp only;decide⟩,⟨by simp only;decide,by simp only;decide⟩⟩
    simp only[Int.add_zero]
    have hle:∀x∈(zg5 k.line c).1,x∈k.line:=by
     intro x hx
     unfold zg5 at hx
     split at hx
     ·exact hx
     ·exact znt hx
    have hsub:(zg5 k.line c).1.Sublist k.line:=by
     unfold zg5
     split
     ·exact List.Sublist.refl _
     ·exact List.eraseIdx_sublist ..
    refine ziR h hi ⟨Int.le_refl _,hT0.2⟩ (by simp only;rw[he]) ⟨zcG.2 (zcG.1 hlk.1),hlk.2.1,zbN.2 ⟨Nat.le_trans hsub.length_le g1,fun x hx=>g2 x (hle x hx),g3.sublist hsub⟩, ?_⟩ (.inl (by simp only;rw[he])) ⟨(h.seat k hk).1,fun x hx=>(h.seat k hk).2 x (hle x hx)⟩
    rw[zcM]
    exact fun hx=>zcM.1 hlk.2.2.2 (hle _ hx)
   ·exact⟨fun h=>by simp at h,⟨by simp only;decide,by simp only;decide⟩,⟨by simp only;decide,by simp only;decide⟩⟩
theorem zpv {s:St} (h:RightS s) (a:Memo):RightS {s with memos:=zk5 s.memos a}:=by
 unfold zk5
 split
 ·exact h
 ·rename_i hc
  simp only[Bool.or_eq_true,Bool.not_eq_true',not_or,Bool.not_eq_false]at hc
  split
  ·rename_i hf
   obtain⟨x,hx⟩:=Option.isSome_iff_exists.1 hf
   obtain⟨⟨hi,he⟩,hxc⟩:=ztI h.ms hx
   refine⟨h.time,h.num,h.token,h.ss,h.sok,h.snd,h.sl,h.ls,h.lok,h.lnd,h.ll, ?_, ?_,h.seat⟩
   ·rw[zoE,zk3 hi (by rw[he,hxc])];exact zoE.1 h.ms
   ·intro m hm
    rcases zk4 hm with rfl|hm
    ·exact hc.1
    ·exact h.mok m hm
  ·rename_i hf
   have hne:∀y∈s.memos,y.client≠a.client:=by
    intro y hy e
    refine hf ?_
    unfold zb9
    rw[List.find?_isSome]
    exact⟨y,hy,by simpa using e⟩
   refine⟨h.time,h.num,h.token,h.ss,h.sok,h.snd,h.sl,h.ls,h.lok,h.lnd,h.ll, ?_, ?_,h.seat⟩
   ·refine zgZ h.ms (fun y hy=> ?_) (fun y hy=> ?_)
    ·simpa using ziS hy
    ·have:=ziT (zrG h.ms a.client) hy
     have:=hne y (List.mem_of_mem_drop hy)
     simp at*;omega
   ·intro m hm
    rcases ziO.1 hm with rfl|hm
    ·exact hc.1
    ·exact h.mok m hm
end Go.Proofs.YtbpmcjeeeiffhaaGreat
