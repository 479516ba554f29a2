import Derived.Test.YtngleemijkaeoaaGreatVG
namespace Go.Proofs.YtngleemijkaeoaaGreat
open Go.Pk
set_option maxRecDepth 100000
set_option linter.unusedSimpArgs false
set_option linter.unusedVariables false
theorem zfW (l:List Memo) (hl:l.length<2^62) (c q:Int):CallOK Tryz.prog 15 [.f (al l.length (zav l)), .f (ai c), .f (ai q)] (fun r o=>r=[ri (zaT l c q)]∧o=[]):=by
 refine zac zar mixed (T:=Ty) (n:=29) Tryz.func15 (c:=Tryz.f15.body.getD .skip) rfl Tryz.results15 Tryz.ntmps15 Tryz.call15 ?_
 simp only[Tryz.f15,Option.getD]
 have hla:=zi9 l hl c
 cases hf:zaM l c with
 |none=>
  rw[hf]at hla
  simp only[Option.isSome_none,Option.getD_none]at hla
  have:zaT l c q=1:=by unfold zaT;rw[hf]
  rw[this]
  repeat'(first|refine zq0 ?_|exact zd0|refine zc (hla) ?_|refine zg (hla) ?_|(refine zaa ?_ ?_<;>intro hb)|(refine And.intro ?_ ?_;exact zI)|(refine And.intro ?_ ?_<;>intro hg)|exact zC|fail)
 |some m=>
  rw[hf]at hla
  simp only[Option.isSome_some,Option.getD_some]at hla
  have:zaT l c q=if decide (m.seq<q)=true then 1 else if(m.seq==q)=true then 0 else -1:=by unfold zaT;rw[hf];simp only[decide_eq_true_eq,beq_iff_eq]
  rw[this]
  cases h1:decide (m.seq<q)
  ·cases h2:(m.seq==q)
   ·repeat'(first|refine zq (I h1 h2) ?_|exact zd (I h1 h2)|refine zc (hla) ?_|refine zg (hla) ?_|(refine zaa ?_ ?_<;>intro hb)|(refine And.intro ?_ ?_;exact zI)|(refine And.intro ?_ ?_<;>intro hg)|exact zC|fail)
   ·repeat'(first|refine zq (I h1 h2) ?_|exact zd (I h1 h2)|refine zc (hla) ?_|refine zg (hla) ?_|(refine zaa ?_ ?_<;>intro hb)|(refine And.intro ?_ ?_;exact zI)|(refine And.intro ?_ ?_<;>intro hg)|exact zC|fail)
  ·repeat'(first|refine zq h1 ?_|exact zd h1|refine zc (hla) ?_|refine zg (hla) ?_|(refine zaa ?_ ?_<;>intro hb)|(refine And.intro ?_ ?_;exact zI)|(refine And.intro ?_ ?_<;>intro hg)|exact zC|fail)
def kR (a:Memo):List Memo→Bool→List Memo
 |[],put=>if put=true then []else [a]
 |m::r,put=>if(m.client==a.client)=true then a::kR a r true else if(!put&&decide (m.client>a.client))=true then a::m::kR a r true else m::kR a r put
theorem zmv {a:Memo}:∀{l:List Memo},(∀m∈l,(m.client==a.client)=false)→kR a l true=l
 |[],_=>rfl
 |m::r,h=>by
  rw[kR,if_neg (by rw[h m List.mem_cons_self];simp),if_neg (by simp),zmv fun x hx=>h x (List.mem_cons_of_mem _ hx)]
theorem zjV {a:Memo}:∀{l:List Memo},SM l→kR a l false=if(zaM l a.client).isSome=true then l.set (zf2 l a.client) a else l.take (zf2 l a.client)++a::l.drop (zf2 l a.client)
 |[],_=>rfl
 |m::r,hs=>by
  have hs':=List.pairwise_cons.1 hs
  rw[kR]
  by_cases h1:m.client=a.client
  ·have hp:zf2 (m::r) a.client=0:=by unfold zf2;rw[zcr,if_neg (by simp;omega)]
   have hf:(zaM (m::r) a.client).isSome=true:=by unfold zaM;rw[List.find?_cons_of_pos (by simpa using h1)];rfl
   rw[if_pos (by simpa using h1),if_pos hf,hp,List.set_cons_zero,zmv fun x hx=>by have:=hs'.1 x hx;simp;omega]
  ·rw[if_neg (by simpa using h1)]
   by_cases h2:m.client>a.client
   ·have hp:zf2 (m::r) a.client=0:=by unfold zf2;rw[zcr,if_neg (by simp;omega)]
    have hf:(zaM (m::r) a.client).isSome=false:=by
     rw[Option.isSome_eq_false_iff,Option.isNone_iff_eq_none]
     refine List.find?_eq_none.2 fun x hx=> ?_
     rcases List.mem_cons.1 hx with rfl|hx
     ·simpa using h1
     ·have:=hs'.1 x hx;simp;omega
    rw[if_pos (by simpa using h2),hf,if_neg (by simp),hp,zmv fun x hx=>by have:=hs'.1 x hx;simp;omega]
    rfl
   ·have hp:zf2 (m::r) a.client=zf2 r a.client+1:=by unfold zf2;rw[zcr,if_pos (by simp;omega)]
    have hf:zaM (m::r) a.client=zaM r a.client:=by unfold zaM;rw[List.find?_cons_of_neg (by simpa using h1)]
    rw[if_neg (by simpa using h2),zjV hs'.2,hf,hp]
    split<;>rfl
theorem zt6 {a:Memo} {l:List Memo} {i:Nat} {put:Bool} (hi:i<l.length):kR a (l.drop i) put=if(l[i].client==a.client)=true then a::kR a (l.drop (i+1)) true else if(!put&&decide (l[i].client>a.client))=true then a::l[i]::kR a (l.drop (i+1)) true else l[i]::kR a (l.drop (i+1)) put:=by
 rw[List.drop_eq_getElem_cons hi,kR]
abbrev zxH (a:Memo):List C:=[di a.client,di a.seq,di a.reply.code,di a.reply.session,di a.reply.ahead, .d (.sl a.reply.held.length (zaH a.reply.held))]
set_option maxHeartbeats 2000000 in
theorem zr6 (l:List Memo) (hs:SM l) (hl:l.length<2^30) (a:Memo) (ha:answerB a=true) (har:zcA a.reply) (hf:zaT l a.client a.seq=1):
  CallOK Tryz.prog 65 [.f (al l.length (zav l)), .f (.agg (a.enc.map C.d))] (fun r o=>r=[.one (.own 6 (zcF l a).length (zav (zcF l a)) false)]∧o=[]):=by
 refine CallOK.nil ?_
 have hk:zcF l a=kR a l false:=by
  rw[zjV hs]
  unfold zcF
  rw[if_neg (by rw[ha,hf];simp)]
 rw[hk]
 refine zac zar mixed (T:=Ty) (n:=79) Tryz.func65 (c:=Tryz.f65.body.getD .skip) rfl Tryz.results65 Tryz.ntmps65 Tryz.call65 ?_
 simp only[Tryz.f65,Option.getD]
 have hma:=zjX a har
 rw[ha]at hma
 have hfr:=zfW l (by omega) a.client a.seq
 rw[hf]at hfr
 have h11:((1:Int) !=1)=false:=rfl
 repeat'(first|refine zq h11 ?_|exact zd h11|refine zc (hma) ?_|refine zg (hma) ?_|refine zc (hfr) ?_|refine zg (hfr) ?_|(refine zaa ?_ ?_<;>intro hb)|(refine And.intro ?_ ?_;exact zI)|(refine And.intro ?_ ?_<;>intro hg)|exact zC|fail)
 refine zao (τ:=Nat×Bool×List Memo) (fun t=>⟨[al l.length (zav l),dd,dd, .one (.ptr ⟨3,0,1⟩ 0),dd, .one (.ptr ⟨5,0,1⟩ 0), .one (.own ⟨6,1,1⟩ 0 t.2.2.length),ab t.2.1,ai t.1,dd,dd,dd,dd,dd,dd,dd,dd,dd,dd,dd,dd,dd,dd,dd,dd,dd,dd,dd,dd,dd,dd,dd,dd,dd,dd,dd,dd,dd,dd,dd,dd,dd,dd,dd,dd,dd,dd,dd,dd,dd,dd,dd,dd,dd,dd,dd,dd,dd,dd,dd,dd,dd,dd,dd,dd,dd,dd,dd,dd,dd,dd,dd,dd,dd,dd,dd,dd,dd,dd],
   [(3,{next:=2,l:=[some {e:=1,var:=true,fz:=false,sz:=0,cells:=[di a.client,di a.seq,di a.reply.code,di a.reply.session,di a.reply.ahead, .d (.sl a.reply.held.length (zaH a.reply.held))]},none,none,none,none,none,none]}),(5,{next:=2,l:=[some {e:=1,var:=true,fz:=false,sz:=0,cells:=[di a.client,di a.seq,di a.reply.code,di a.reply.session,di a.reply.ahead, .d (.sl a.reply.held.length (zaH a.reply.held))]},none,none,none,none,none,none]}),(6,{next:=2,l:=[none,some {e:=1,var:=false,fz:=false,sz:=6,cells:=(zav t.2.2).map C.d}]}),(47,⟨2,[]⟩),(48,⟨2,[]⟩),(63,⟨2,[]⟩),(64,⟨2,[]⟩),(70,⟨2,[]⟩),(71,⟨2,[]⟩)]⟩)
  (fun t=>t.1≤l.length∧t.2.2.length≤t.1+1+1∧(t.2.1=false→t.2.2.length≤t.1)) (fun t=>t.2.2++kR a (l.drop t.1) t.2.1) (fun t=>l.length - t.1) (0,false,[])
  ((Gh.nil (i:=6) (s:=6) (sz:=6) rfl).trans (Gh.canon [3,5,6] [47,48,63,64,70,71] [] zK rfl rfl)) ⟨Nat.zero_le _,by simp,by simp⟩ ?_
 rintro⟨i,put,m⟩ ⟨hi0,hm1,hm2⟩ hF K hK
 simp only[List.drop_zero,List.nil_append]at hi0 hm1 hm2 hF hK⊢
 refine zw ?_
 refine zaa (fun hlt=> ?_) (fun hge=> ?_)
 ·have hi:i<l.length:=by simpa using hlt
  have hat:=zbx hi
  have hw:=zan hi (by omega)
  have hd:=zt6 (a:=a) (put:=put) hi
  have hb1:((m.length+1)*64≤2^47)=True:=eq_true (by omega)
  have hb2:((m.length+1+1)*64≤2^47)=True:=eq_true (by omega)
  have hsA:zav m++[iD a.client,iD a.seq,iD a.reply.code,iD a.reply.session,iD a.reply.ahead, .sl a.reply.held.length (zaH a.reply.held)]=zav (m++[a]):=by rw[memosE_snoc]
  cases h1:(l[i].client==a.client)
  ·rw[if_neg (by rw[h1];simp)]at hd
   cases h2:(!put&&decide (l[i].client>a.client))
   ·rw[h2,if_neg (by simp)]at hd
    have hsB:zav m++[iD l[i].client,iD l[i].seq,iD l[i].reply.code,iD l[i].reply.session,iD l[i].reply.ahead, .sl l[i].reply.held.length (zaH l[i].reply.held)]=zav (m++[l[i]]):=by rw[memosE_snoc]
    repeat'(first|refine zq (I hat (I h1 (I h2 (I hb1 (I hsB (I @zak zca)))))) ?_|exact zd (I hat (I h1 (I h2 (I hb1 (I hsB (I @zak zca))))))|(refine zaa ?_ ?_<;>intro hb)|(refine And.intro ?_ ?_;exact zI)|(refine And.intro ?_ ?_<;>intro hg)|exact zC|fail)
    exact hK _ (i+1,put,m++[l[i]]) (Gh.canon [3,5,6] [] [] (zk (I hw (I @List.length_append.{0} @List.length_singleton.{0}))) rfl rfl) ⟨hi,by simp;omega,fun hp=>by have:=hm2 hp;simp;omega⟩ (by simp only;rw[hd];simp) (by simp only;omega)
   ·rw[h2,if_pos rfl]at hd
    have hsB:zav (m++[a])++[iD l[i].client,iD l[i].seq,iD l[i].reply.code,iD l[i].reply.session,iD l[i].reply.ahead, .sl l[i].reply.held.length (zaH l[i].reply.held)]=zav (m++[a]++[l[i]]):=by rw[memosE_snoc (l:=m++[a])]
    have htA:(zav (m++[a])).take ((m.length+1)*6)=zav (m++[a]):=by have:=zaJ (l:=m++[a]);rwa[List.length_append,List.length_singleton]at this
    repeat'(first|refine zq (I hat (I h1 (I h2 (I hb1 (I hb2 (I hsA (I htA (I hsB (I @zak zca))))))))) ?_|exact zd (I hat (I h1 (I h2 (I hb1 (I hb2 (I hsA (I htA (I hsB (I @zak zca)))))))))|(refine zaa ?_ ?_<;>intro hb)|(refine And.intro ?_ ?_;exact zI)|(refine And.intro ?_ ?_<;>intro hg)|exact zC|fail)
    have hpf:put=false:=by cases put;rfl;simp at h2
    have hm3:=hm2 hpf
    exact hK _ (i+1,true,m++[a]++[l[i]]) (Gh.canon [3,5,6] [] [] (zk (I hw (I @List.length_append.{0} @List.length_singleton.{0}))) rfl rfl) ⟨hi,by simp;omega,fun hp=>by cases hp⟩ (by simp only;rw[hd];simp) (by simp only;omega)
  ·rw[if_pos h1]at hd
   repeat'(first|refine zq (I hat (I h1 (I hb1 (I hsA (I @zak zca))))) ?_|exact zd (I hat (I h1 (I hb1 (I hsA (I @zak zca)))))|(refine zaa ?_ ?_<;>intro hb)|(refine And.intro ?_ ?_;exact zI)|(refine And.intro ?_ ?_<;>intro hg)|exact zC|fail)
   exact hK _ (i+1,true,m++[a]) (Gh.canon [3,5,6] [] [] (zk (I hw (I @List.length_append.{0} @List.length_singleton.{0}))) rfl rfl) ⟨hi,by simp;omega,fun hp=>by cases hp⟩ (by simp only;rw[hd];simp) (by simp only;omega)
 ·have hi:i=l.length:=by
   have:¬(i:Int)<l.length:=by simpa using hge
   omega
  subst hi
  rw[List.drop_length,kR]at hF
  have hb1:((m.length+1)*64≤2^47)=True:=eq_true (by omega)
  have hsA:zav m++[iD a.client,iD a.seq,iD a.reply.code,iD a.reply.session,iD a.reply.ahead, .sl a.reply.held.length (zaH a.reply.held)]=zav (m++[a]):=by rw[memosE_snoc]
  cases put
  ·repeat'(first|refine zq (I hb1 (I hsA (I @zak zca))) ?_|exact zd (I hb1 (I hsA (I @zak zca)))|(refine zaa ?_ ?_<;>intro hb)|(refine And.intro ?_ ?_;exact zI)|(refine And.intro ?_ ?_<;>intro hg)|exact zC|fail)
   have hF':m++[a]=kR a l false:=hF
   rw[←hF']
   show za4 _ _∧True
   simp[za4]
  ·repeat'(first|refine zq (I hb1 hsA) ?_|exact zd (I hb1 hsA)|(refine zaa ?_ ?_<;>intro hb)|(refine And.intro ?_ ?_;exact zI)|(refine And.intro ?_ ?_<;>intro hg)|exact zC|fail)
   have hF':m=kR a l false:=by rw[←hF];simp
   rw[←hF']
   show za4 _ _∧True
   simp[za4]
theorem zdT (l:List Memo) (c q:Int):zaT l c q=1∨zaT l c q=0∨zaT l c q= -1:=by
 unfold zaT
 cases zaM l c with
 |none=>exact .inl rfl
 |some m=>simp only;split;exact .inl rfl;split;exact .inr (.inl rfl);exact .inr (.inr rfl)
abbrev zt7 (a:Reply):RF:= .agg [.d (iD a.code), .d (iD a.session), .d (iD a.ahead), .d (.sl a.held.length (zaH a.held))]
set_option maxHeartbeats 4000000 in
theorem zlD (s:St) (h:Small s) (hr:RightS s) (r:Req) (hro:r.ok) (hdr:Req.may r=true→answerB ⟨r.client,r.seq,(za1 s r).2⟩=true) (hdo:Req.may r=true→zcA (za1 s r).2):
  CallOK Tryz.prog 34 [.f (zq7 s), .f (.agg (r.enc.map C.d))]
  (fun x o=>x=[zoJ (zaD s r).1,zt7 (zaD s r).2.1,rb (zaD s r).2.2]∧o=[]):=by
 refine CallOK.nil ?_
 refine zac zar mixed (T:=Ty) (n:=59) Tryz.func34 (c:=Tryz.f34.body.getD .skip) rfl Tryz.results34 Tryz.ntmps34 Tryz.call34 ?_
 simp only[Tryz.f34,Option.getD]
 have hmr:=zgq r hro
 have hfr:=zfW s.memos (by have:=h.memos;omega) r.client r.seq
 cases hm:Req.may r
 ·rw[hm]at hmr
  have ha:zaD s r=(s,⟨1,0,0,[]⟩,false):=by unfold zaD;rw[if_pos (by rw[hm];rfl)]
  rw[ha]
  repeat'(first|refine zq0 ?_|exact zd0|refine zc (hmr) ?_|refine zg (hmr) ?_|(refine zaa ?_ ?_<;>intro hb)|(refine And.intro ?_ ?_;exact zI)|(refine And.intro ?_ ?_<;>intro hg)|exact zC|fail)
  simp[zbj,zdo,zbr,za4]
 ·rw[hm]at hmr
  have hap:zaD s r=if decide (zaT s.memos r.client r.seq<0)=true then(s,⟨0,0,0,[]⟩,false)else if(zaT s.memos r.client r.seq==0)=true then(s,((zaM s.memos r.client).map Memo.reply).getD ⟨0,0,0,[]⟩,false)else
    ({(za1 s r).1 with memos:=zcF (za1 s r).1.memos ⟨r.client,r.seq,(za1 s r).2⟩},(za1 s r).2,true):=by
   unfold zaD
   rw[if_neg (by rw[hm];simp)]
   have hc:=zdT s.memos r.client r.seq
   rcases hc with e|e|e<;>rw[e]<;>rfl
  cases f1:decide (zaT s.memos r.client r.seq<0)
  ·rw[if_neg (by rw[f1];simp)]at hap
   cases f2:(zaT s.memos r.client r.seq==0)
   ·rw[if_neg (by rw[f2];simp)]at hap
    rw[hap]
    have hdn:=zr8 s h hr r hro hm
    have hdm:=zdC h r
    have hf1:zaT s.memos r.client r.seq=1:=by
     rcases zdT s.memos r.client r.seq with e|e|e
     ·exact e
     ·rw[e]at f2;cases f2
     ·rw[e]at f1;cases f1
    have hke:=zr6 s.memos hr.ms h.memos ⟨r.client,r.seq,(za1 s r).2⟩ (hdr hm) (hdo hm) hf1
    rw[hdm]
    repeat'(first|(with_reducible first|refine za3 10 ?_|refine zaP 10 ?_|refine zaQ 10 ?_)|refine zu (I f1 (I f2 hdm)) ?_|exact zd (I f1 (I f2 hdm))|(with_reducible first|refine zab _ _ ?_)|refine zc (hmr) ?_|refine zg (hmr) ?_|refine zc (hfr) ?_|refine zg (hfr) ?_|refine zc (hdn) ?_|refine zg (hdn) ?_|(refine zaa ?_ ?_<;>intro hb)|(refine And.intro ?_ ?_;exact zI)|(refine And.intro ?_ ?_<;>intro hg)|exact zC|fail)
    refine za9 (za2 (Gh.sealF 11 3 (.own ⟨11,4,4⟩ 0 (za1 s r).2.held.length) ?_) ?_)
    ·exact zo0
    refine zf0 ?_
    repeat'(first|(with_reducible first|refine za3 11 ?_|refine zaP 11 ?_|refine zaQ 11 ?_)|refine zu hdm ?_|exact zd hdm|(with_reducible first|refine zab _ _ ?_)|refine zc (hke) ?_|refine zg (hke) ?_|(refine zaa ?_ ?_<;>intro hb)|(refine And.intro ?_ ?_;exact zI)|(refine And.intro ?_ ?_<;>intro hg)|exact zC|fail)
    refine za9 (za2 (Gh.sealF 10 5 (.own ⟨10,6,7⟩ 0 (zcF s.memos ⟨r.client,r.seq,(za1 s r).2⟩).length) ?_) ?_)
    ·exact zo0
    refine zf0 ?_
    repeat'(first|refine zq hdm ?_|exact zd hdm|(refine zaa ?_ ?_<;>intro hb)|(refine And.intro ?_ ?_;exact zI)|(refine And.intro ?_ ?_<;>intro hg)|exact zC|fail)
    simp[zbj,zdo,zbr,za4]
   ·rw[if_pos f2]at hap
    rw[hap]
    have hla:=zi9 s.memos (by have:=h.memos;omega) r.client
    repeat'(first|refine zq (I f1 f2) ?_|exact zd (I f1 f2)|refine zc (hmr) ?_|refine zg (hmr) ?_|refine zc (hfr) ?_|refine zg (hfr) ?_|refine zc (hla) ?_|refine zg (hla) ?_|(refine zaa ?_ ?_<;>intro hb)|(refine And.intro ?_ ?_;exact zI)|(refine And.intro ?_ ?_<;>intro hg)|exact zC|fail)
    cases hfm:zaM s.memos r.client with
    |none=>unfold zaT at f2;rw[hfm]at f2;cases f2
    |some m=>simp[zbj,zdo,zbr,za4]
  ·rw[if_pos f1]at hap
   rw[hap]
   repeat'(first|refine zq f1 ?_|exact zd f1|refine zc (hmr) ?_|refine zg (hmr) ?_|refine zc (hfr) ?_|refine zg (hfr) ?_|(refine zaa ?_ ?_<;>intro hb)|(refine And.intro ?_ ?_;exact zI)|(refine And.intro ?_ ?_<;>intro hg)|exact zC|fail)
   simp[zbj,zdo,zbr,za4]
theorem zi8 {T:Nat→Option TI} {P:Program} {x:Code} {g g':G} {Q:Ex→G→Prop} (h:Gh g g') (hl:zol T P x g' Q):zol T P x g Q:=by
 obtain⟨I,n0,⟨g0,h1,h2⟩,h3⟩:=hl
 exact⟨I,n0,⟨g0,h.trans h1,h2⟩,h3⟩
def sameI (a b:List Int):Bool:=(a.length==b.length)&&((a.zip b).all fun p=>p.1==p.2)
theorem zl3 (a b:List Int) (ha:a.length<2^62) (hb:b.length<2^62):CallOK Tryz.prog 90 [.f (al a.length (zaw a)), .f (al b.length (zaw b))] (fun r o=>r=[rb (sameI a b)]∧o=[]):=by
 refine zac zar mixed (T:=Ty) (n:=26) Tryz.func90 (c:=Tryz.f90.body.getD .skip) rfl Tryz.results90 Tryz.ntmps90 Tryz.call90 ?_
 simp only[Tryz.f90,Option.getD]
 cases hl:((a.length:Int) !=(b.length:Int))
 ·have hle:a.length=b.length:=by simp at hl;omega
  have hs:sameI a b=(a.zip b).all fun p=>p.1==p.2:=by unfold sameI;rw[hle];simp
  rw[hs]
  repeat'(first|refine zq hl ?_|exact zd hl|(refine zaa ?_ ?_<;>intro hb)|(refine And.intro ?_ ?_;exact zI)|(refine And.intro ?_ ?_<;>intro hg)|exact zC|fail)
  refine zao (τ:=Nat) (fun i=>⟨[al a.length (zaw a),al b.length (zaw b),dd,dd,dd,ai i,dd,dd,dd,dd,dd,dd,dd,dd,dd,dd,dd,dd,dd,dd,dd,dd,dd,dd,dd,dd],[]⟩)
   (fun i=>i≤a.length) (fun i=>((a.drop i).zip (b.drop i)).all fun p=>p.1==p.2) (fun i=>a.length - i) 0
   (Gh.canon [] [] [] zK rfl rfl) (Nat.zero_le _) ?_
  intro i hi0 hF K hK
  rw[List.drop_zero,List.drop_zero]at hF
  refine zw ?_
  refine zaa (fun hlt=> ?_) (fun hge=> ?_)
  ·have hi:i<a.length:=by simpa using hlt
   have hib:i<b.length:=by omega
   have hat:=zcN hi
   have hbt:=zcN hib
   have hw:=zan hi ha
   have hq:(((a.drop i).zip (b.drop i)).all fun p=>p.1==p.2)=((a[i]==b[i])&&(((a.drop (i+1)).zip (b.drop (i+1))).all fun p=>p.1==p.2)):=by
    rw[List.drop_eq_getElem_cons hi,List.drop_eq_getElem_cons hib,List.zip_cons_cons,List.all_cons]
   rw[hq]at hF
   cases he:a[i] !=b[i]
   ·have he':(a[i]==b[i])=true:=by simpa using he
    rw[he',Bool.true_and]at hq
    repeat'(first|refine zq (I hat (I hbt (I he (I @zah zca)))) ?_|exact zd (I hat (I hbt (I he (I @zah zca))))|(refine zaa ?_ ?_<;>intro hb)|(refine And.intro ?_ ?_;exact zI)|(refine And.intro ?_ ?_<;>intro hg)|exact zC|fail)
    exact hK _ (i+1) (Gh.canon [] [] [] (zk hw) rfl rfl) hi hq.symm (by omega)
   ·have he':(a[i]==b[i])=false:=by simpa using he
    rw[he',Bool.false_and]at hF
    repeat'(first|refine zq (I hat (I hbt (I he (I @zah zca)))) ?_|exact zd (I hat (I hbt (I he (I @zah zca))))|(refine zaa ?_ ?_<;>intro hb)|(refine And.intro ?_ ?_;exact zI)|(refine And.intro ?_ ?_<;>intro hg)|exact zC|fail)
    rw[←hF]
  ·have hi:i=a.length:=by
    have:¬(i:Int)<a.length:=by simpa using hge
    omega
   rw[hi,List.drop_length,List.zip_nil_left,List.all_nil]at hF
   rw[←hF]
   repeat'(first|refine zq0 ?_|exact zd0|(refine zaa ?_ ?_<;>intro hb)|(refine And.intro ?_ ?_;exact zI)|(refine And.intro ?_ ?_<;>intro hg)|exact zC|fail)
 ·have hs:sameI a b=false:=by
   have:(a.length==b.length)=false:=by simp at hl⊢;omega
   unfold sameI;rw[this];rfl
  rw[hs]
  repeat'(first|refine zq hl ?_|exact zd hl|(refine zaa ?_ ?_<;>intro hb)|(refine And.intro ?_ ?_;exact zI)|(refine And.intro ?_ ?_<;>intro hg)|exact zC|fail)
def st0:St:=⟨0,0,0,[],[],[]⟩
def rq0:Req:=⟨3,1,1,0, .empty⟩
theorem zcQ:RightS st0:=zf9.1 rfl
def st1:St:=⟨0,1,0,[⟨3,1,0⟩],[],[⟨3,1,⟨0,1,0,[]⟩⟩]⟩
theorem znN (n:Int):(zg9 n).size≤12:=by
 unfold zg9
 rcases six n with h|h|h|h|h|h<;>rw[h]<;>decide
theorem zoN {s:St} (hr:RightS s) {a:Act} (ha:zha a):(zgN s a).ok:=by
 obtain⟨_,h1,h2,h3,h4,h5⟩:=ha
 unfold zbE at*
 have hH:zaL=2305843009213693952:=rfl
 have hsq:∀c,0≤((zaM s.memos c).getD zcB).seq∧((zaM s.memos c).getD zcB).seq≤zaL:=fun c=>by
  cases hf:zaM s.memos c with
  |none=>decide
  |some m=>
   have:=(zcY (hr.mok m (List.mem_of_find?_eq_some hf))).2.1
   simp only[Option.getD_some];omega
 have hnm:∀c,0≤((zaF s.sess c).getD zee).num∧((zaF s.sess c).getD zee).num≤zaL:=fun c=>by
  cases hf:zaF s.sess c with
  |none=>decide
  |some m=>
   have:=(zb6.1 (hr.sok m (List.mem_of_find?_eq_some hf)).1).2.1
   simp only[Option.getD_some];omega
 have hk:1≤zef a.kind∧zef a.kind≤6:=by unfold zef;omega
 have hs:0≤zgG a.kind a.session∧zgG a.kind a.session≤7:=by unfold zgG;split<;>omega
 have hn:(zfs a.kind a.name).size≤12:=by
  unfold zfs
  split
  ·exact znN _
  ·decide
 unfold zgN Req.ok i64 zq6
 simp only
 have:=hsq (a.client % 8)
 have:=hnm (a.client % 8)
 refine⟨by omega, ?_, ?_, ?_, ?_⟩
 ·split
  ·split<;>omega
  ·omega
 ·split<;>omega
 ·split
  ·omega
  ·split<;>omega
 ·split
  ·decide
  ·omega
def zq5 (s:St) (a:Act):St:=(zaD (zaU s (s.time+a.time % 16) 60) (zgN (zaU s (s.time+a.time % 16) 60) a)).1
def zke:List Act→St→St
 |[],s=>s
 |a::r,s=>zke r (zq5 s a)
structure Mk (s:St) (i:Nat):Prop where
 rt:RightS s
 num:s.num≤i
 tok:s.token≤8*i
theorem zoO {s:St} {i:Nat} (h:Mk s i) (hi:i≤1000) (a:Act):Mk (zq5 s a) (i+1):=by
 have hH:zaL=2305843009213693952:=rfl
 obtain⟨h1,h2,h3⟩:=h
 obtain⟨r1,r2,r3,r4,r5⟩:=zbo h1 (s.time+a.time % 16) 60 (by omega)
 unfold zq5
 obtain⟨d1,d2,d3,d4,d5⟩:=zbs r1 (zgN (zaU s (s.time+a.time % 16) 60) a) (by omega) (by omega)
 exact⟨d1,by omega,by omega⟩
theorem zoP:∀{l:List Act} {s:St} {i:Nat},Mk s i→i+l.length≤1000→Mk (zke l s) (i+l.length)
 |[],_,_,h,_=>h
 |a::l,s,i,h,hi=>by
  simp only[List.length_cons]at hi⊢
  have:=zoP (l:=l) (zoO h (by omega) a) (by omega)
  rwa[show i+1+l.length=i+(l.length+1) by omega]at this
abbrev znO (acts:List Act):St:=zke (acts.take 60) st0
theorem zmI (acts:List Act):Mk (znO acts) 60:=by
 have h:=zoP (l:=acts.take 60) (s:=st0) (i:=0) ⟨zcQ,by decide,by decide⟩ (by simp;omega)
 have hl:(acts.take 60).length≤60:=by simp;omega
 exact⟨h.rt,by have:=h.num;show(zke (acts.take 60) st0).num≤_;omega,by have:=h.tok;show(zke (acts.take 60) st0).token≤_;omega⟩
set_option maxHeartbeats 4000000 in
theorem zta (acts:List Act) (hl:acts.length<2^60) (ha:∀a∈acts,zha a):CallOK Tryz.prog 54 [.f (al acts.length (zf6 acts))] (fun r o=>r=[zoJ (znO acts)]∧o=[]):=by
 refine CallOK.nil ?_
 refine zac zar mixed (T:=Ty) (n:=44) Tryz.func54 (c:=Tryz.f54.body.getD .skip) rfl Tryz.results54 Tryz.ntmps54 Tryz.call54 ?_
 simp only[Tryz.f54,Option.getD]
 repeat'(first|refine zq0 ?_|exact zd0|(refine zaa ?_ ?_<;>intro hb)|(refine And.intro ?_ ?_;exact zI)|(refine And.intro ?_ ?_<;>intro hg)|exact zC|fail)
 refine zi8 (Gh.sealF 3 3 (.d (.v (.slice none 0 0))) ?_) ?_
 ·exact zo0
 refine zf0 ?_
 refine zi8 (Gh.sealF 3 4 (.d (.v (.slice none 0 0))) ?_) ?_
 ·exact zo0
 refine zf0 ?_
 refine zi8 (Gh.sealF 3 5 (.d (.v (.slice none 0 0))) ?_) ?_
 ·exact zo0
 refine zf0 ?_
 refine zao (τ:=Nat×St) (fun q=>⟨[al acts.length (zf6 acts),dd, .one (.ptr ⟨2,0,1⟩ 0), .one (.ptr ⟨3,0,1⟩ 0),ai q.1,dd,dd,dd,dd,dd,dd,dd,dd,dd,dd,dd,dd,dd,dd,dd,dd,dd,dd,dd,dd,dd,dd,dd,dd,dd,dd,dd,dd,dd,dd,dd,dd,dd,dd,dd,dd,dd,dd,dd],[(2,{next:=2,l:=[some {e:=1,var:=true,fz:=false,sz:=0,cells:=[di 0,di 0,di 0, .d (.v (.slice none 0 0)), .d (.v (.slice none 0 0)), .d (.v (.slice none 0 0))]},none,none,none,none,none,none]}),(3,{next:=2,l:=[some {e:=1,var:=true,fz:=false,sz:=0,cells:=[di q.2.time,di q.2.num,di q.2.token, .d (.sl q.2.sess.length (zaE q.2.sess)), .d (.sl q.2.locks.length (zaf q.2.locks)), .d (.sl q.2.memos.length (zav q.2.memos))]},none,none,none,none,none,none]}),(5,⟨2,[]⟩),(6,⟨2,[]⟩),(29,⟨2,[]⟩),(38,⟨2,[]⟩)]⟩)
  (fun q=>q.1≤acts.length∧q.1≤60∧Mk q.2 q.1) (fun q=>zke ((acts.take 60).drop q.1) q.2) (fun q=>acts.length - q.1) (0,st0)
  (Gh.canon [2,3] [5,6,29,38] [] zK rfl rfl) ⟨Nat.zero_le _,by decide,zcQ,by decide,by decide⟩ ?_
 intro⟨i,s⟩ ⟨j1,j2,j3⟩ hF K hK
 simp only[List.drop_zero]at j1 j2 j3 hF hK⊢
 have hH:zaL=2305843009213693952:=rfl
 refine zw ?_
 refine zaa (fun hlt=> ?_) (fun hge=> ?_)
 ·have hlt2:i<acts.length∧i<60:=by simp at hlt;omega
  have hi:=hlt2.1
  have hat:=zoR hi
  have hw:=zan hi (by omega)
  have hao:=ha _ (List.getElem_mem hi)
  have hwt:=zbI hao.1
  have htm:=zci hao.1.1 16
  have hrt:=j3.rt.time
  have hnu:=j3.num
  have htk:=j3.tok
  have hwa:IntKind.i64.wrap (s.time+acts[i].time % 16)=s.time+acts[i].time % 16:=wrap64 (by omega) (by omega)
  have had:=zhW s (zaN j3.rt) j3.rt (s.time+acts[i].time % 16) 60
  obtain⟨r1,r2,r3,r4,r5⟩:=zbo j3.rt (s.time+acts[i].time % 16) 60 (by omega)
  have hmk:=zoO j3 (by omega) acts[i]
  have hds:(acts.take 60).drop i=acts[i]::(acts.take 60).drop (i+1):=by
   rw[List.drop_eq_getElem_cons (by simp;omega),List.getElem_take]
  have hst:zq5 s acts[i]=(zaD (zaU s (s.time+acts[i].time % 16) 60) (zgN (zaU s (s.time+acts[i].time % 16) 60) acts[i])).1:=rfl
  generalize zaU s (s.time+acts[i].time % 16) 60=t at*
  have hrq:=zil t (zaN r1) r1 acts[i] hao
  have hro:=zoN r1 hao
  generalize zgN t acts[i]=q at*
  have hap:=zlD t (zaN r1) r1 q hro (fun hm=>ze8 r1 hm (by omega) (by omega)) (fun hm=>zdD r1 hm (by omega) (by omega))
  generalize zaD t q=U at*
  repeat'(first|refine zq (I hat (I hwt (I htm (I hwa (I @zgM zca))))) ?_|exact zd (I hat (I hwt (I htm (I hwa (I @zgM zca)))))|refine zc (had) ?_|refine zg (had) ?_|refine zc (hrq) ?_|refine zg (hrq) ?_|refine zc (hap) ?_|refine zg (hap) ?_|(refine zaa ?_ ?_<;>intro hb)|(refine And.intro ?_ ?_;exact zI)|(refine And.intro ?_ ?_<;>intro hg)|exact zC|fail)
  refine hK _ (i+1,U.1) (Gh.canon [2,3] [] [] (zk hw) rfl rfl) ⟨hi,by simp only;omega,by rw[←hst];exact hmk⟩ ?_ (by simp only;omega)
  simp only
  rw[hds,zke,hst]
 ·have hd:(acts.take 60).drop i=[]:=List.drop_eq_nil_of_le (by simp at hge⊢;omega)
  rw[hd,zke]at hF
  rw[show znO acts=s from hF.symm]
  repeat'(first|refine zq0 ?_|exact zd0|(refine zaa ?_ ?_<;>intro hb)|(refine And.intro ?_ ?_;exact zI)|(refine And.intro ?_ ?_<;>intro hg)|exact zC|fail)
  simp[zbj,zdo,zbr,za4]
theorem zqB {l:List Memo} (hs:SM l) {a:Memo} (ha:answerB a=true) (hf:zaT l a.client a.seq=1):zaM (zcF l a) a.client=some a:=by
 have hk:zcF l a=kR a l false:=by
  rw[zjV hs]
  unfold zcF
  rw[if_neg (by rw[ha,hf];simp)]
 rw[hk]
 have key:∀(l:List Memo),zaM (kR a l false) a.client=some a:=by
  intro l
  induction l with
  |nil=>simp[kR,zaM]
  |cons m r ih=>
   rw[kR]
   split
   ·simp[zaM]
   ·rename_i h1
    split
    ·simp[zaM]
    ·unfold zaM
     rw[List.find?_cons_of_neg (by simpa using h1)]
     exact ih
 exact key l
theorem zqC {s:St} (hr:RightS s) {q:Req} (h:Small s) (hN:s.num+1≤zaL) (hT:s.token+4≤zaL) (hd:(zaD s q).2.2=true):
  Req.may q=true∧zaM (zaD s q).1.memos q.client=some ⟨q.client,q.seq,(zaD s q).2.1⟩:=by
 unfold zaD at hd⊢
 split at hd
 ·cases hd
 ·rename_i hm
  have hm':Req.may q=true:=by simpa using hm
  rw[if_neg hm]
  split at hd
  ·cases hd
  ·rename_i h1
   rw[if_neg h1]
   split at hd
   ·cases hd
   ·rename_i h2
    rw[if_neg h2]
    refine⟨hm', ?_⟩
    have hf:zaT s.memos q.client q.seq=1:=by
     rcases zdT s.memos q.client q.seq with e|e|e
     ·exact e
     ·exact absurd e h2
     ·exact absurd e h1
    simp only
    rw[zdC h q]
    exact zqB (a:=⟨q.client,q.seq,(za1 s q).2⟩) hr.ms (ze8 hr hm' hN hT) hf
theorem zmx {t:St} {q:Req} {x:Reply} (hm:Req.may q=true) (hf:zaM t.memos q.client=some ⟨q.client,q.seq,x⟩):zaD t q=(t,x,false):=by
 have hfr:zaT t.memos q.client q.seq=0:=by unfold zaT;rw[hf];simp
 unfold zaD
 rw[if_neg (by rw[hm];simp),hfr,if_neg (by decide),if_pos rfl,hf]
 rfl
theorem zoz {s:St} (hr:RightS s) (h:Small s) {q:Req} (hN:s.num+1≤zaL) (hT:s.token+4≤zaL):(zaD s q).2.1.held.length<2^30:=by
 unfold zaD
 split
 ·simp
 ·rename_i hm
  split
  ·simp
  ·split
   ·cases hf:zaM s.memos q.client with
    |none=>simp
    |some m=>exact(h.held m (List.mem_of_find?_eq_some hf)).1
   ·exact(zdD hr (by simpa using hm) hN hT).1
def zxM (s:St) (k:Lk):Bool:=(zaF s.sess k.holder).isSome&&decide (k.token≤s.token)&&k.line.all fun c=>(zaF s.sess c).isSome
def zxK (s:St):Bool:=zcp s&&decide (s.num≤2305843009213692952)&&decide (s.token≤2305843009213692952)
def zxY (k:Lk):Bool:=decide ((k.name.size:Int)>300)||decide ((k.line.length:Int)>20)
def zxZ (m:Memo):Bool:=decide ((m.reply.held.length:Int)>20)
def zxL (s:St):Bool:=if(decide ((s.sess.length:Int)>20)||decide ((s.locks.length:Int)>20)||decide ((s.memos.length:Int)>20))=true then true else if s.locks.any zxY=true then true else s.memos.any zxZ
def zdl {α:Type} (eq:α→α→Bool) (a b:List α):Bool:=(a.length==b.length)&&((a.zip b).all fun p=>eq p.1 p.2)
def zgK {α:Type} (eq:α→α→Bool) (a b:List α) (i:Nat):Bool:=((a.drop i).zip (b.drop i)).all fun p=>eq p.1 p.2
theorem zdW {α:Type} {eq:α→α→Bool} {a b:List α} {i:Nat} (ha:i<a.length) (hb:i<b.length):zgK eq a b i=(eq a[i] b[i]&&zgK eq a b (i+1)):=by
 unfold zgK
 rw[List.drop_eq_getElem_cons ha,List.drop_eq_getElem_cons hb,List.zip_cons_cons,List.all_cons]
theorem zeG {α:Type} {eq:α→α→Bool} {a b:List α} {i:Nat} (ha:i=a.length):zgK eq a b i=true:=by
 unfold zgK
 rw[List.drop_eq_nil_of_le (by omega)];simp
theorem zfY {α:Type} {eq:α→α→Bool} {a b:List α} (h:((a.length:Int) !=(b.length:Int))=true):zdl eq a b=false:=by
 unfold zdl
 simp at h
 simp;omega
theorem zfZ {α:Type} {eq:α→α→Bool} {a b:List α} (h:((a.length:Int) !=(b.length:Int))=false):a.length=b.length∧zdl eq a b=zgK eq a b 0:=by
 have hl:a.length=b.length:=by simp at h;omega
 unfold zdl zgK
 simp[hl]
def zoD (a b:Int):Bool:=a==b
def zsk (a b:Grant):Bool:=(a.name.toList==b.name.toList)&&(a.token==b.token)
def zum (a b:Sess):Bool:=(a.client==b.client)&&((a.num==b.num)&&(a.renewed==b.renewed))
def zsl (a b:Lk):Bool:=(a.name.toList==b.name.toList)&&(a.holder==b.holder)&&(a.token==b.token)&&zdl zoD a.line b.line
def eqRe (a b:Reply):Bool:=(a.code==b.code)&&(a.session==b.session)&&(a.ahead==b.ahead)&&zdl zsk a.held b.held
def zj4 (a b:Memo):Bool:=(a.client==b.client)&&(a.seq==b.seq)&&(a.reply.code==b.reply.code)&&(a.reply.session==b.reply.session)&&(a.reply.ahead==b.reply.ahead)&&zdl zsk a.reply.held b.reply.held
def zvn (a b:St):Bool:=(a.time==b.time)&&(a.num==b.num)&&(a.token==b.token)&&zdl zum a.sess b.sess&&zdl zsl a.locks b.locks&&zdl zj4 a.memos b.memos
theorem zqQ {a b:List Int}:sameI a b=zdl zoD a b:=rfl
abbrev afn (n:Nat):AV:= .one (.d (.v (.func (.func n) #[] #[])))
set_option maxHeartbeats 1000000 in
theorem zoE (a b:List Grant) (ha:a.length<2^30) (hb:b.length<2^30):CallOK Tryz.prog 130 [.f (al a.length (zaH a)), .f (al b.length (zaH b))] (fun r o=>r=[rb (zdl zsk a b)]∧o=[]):=by
 refine zac zar mixed (T:=Ty) (n:=26) Tryz.func130 (c:=Tryz.f130.body.getD .skip) rfl Tryz.results130 Tryz.ntmps130 Tryz.call130 ?_
 simp only[Tryz.f130,Option.getD]
 cases hl:((a.length:Int) !=(b.length:Int))
 ·obtain⟨hle,hsr⟩:=zfZ (eq:=zsk) hl
  rw[hsr]
  repeat'(first|refine zq hl ?_|exact zd hl|(refine zaa ?_ ?_<;>intro hb)|(refine And.intro ?_ ?_;exact zI)|(refine And.intro ?_ ?_<;>intro hg)|exact zC|fail)
  refine zao (τ:=Nat) (fun i=>⟨[al a.length (zaH a),al b.length (zaH b),dd,dd,dd,ai i,dd,dd,dd,dd,dd,dd,dd,dd,dd,dd,dd,dd,dd,dd,dd,dd,dd,dd,dd,dd],[]⟩)
   (fun i=>i≤a.length) (fun i=>zgK zsk a b i) (fun i=>a.length - i) 0
   (Gh.canon [] [] [] zK rfl rfl) (Nat.zero_le _) ?_
  intro i hi0 hF K hK
  refine zw ?_
  refine zaa (fun hlt=> ?_) (fun hge=> ?_)
  ·have hi:i<a.length:=by simpa using hlt
   have hi2:i<b.length:=by omega
   have hat:=zcT hi
   have hat2:=zcT hi2
   have hw:=zan hi (by omega)
   have hlb:decide ((i:Int)<a.length)=true:=by simp;omega
   have hst:=zdW (eq:=zsk) hi hi2
   cases hq:zsk a[i] b[i]
   ·rw[hq]at hst
    have he:((a[i].name.toList==b[i].name.toList)&&(a[i].token==b[i].token))=false:=by exact hq
    rw[←hF,hst]
    repeat'(first|refine zq (I hat (I hat2 (I hlb (I he (I @Bool.not_true (I @Bool.not_false (I @Bool.and_self (I @za8 zca)))))))) ?_|exact zd (I hat (I hat2 (I hlb (I he (I @Bool.not_true (I @Bool.not_false (I @Bool.and_self (I @za8 zca))))))))|(refine zaa ?_ ?_<;>intro hb)|(refine And.intro ?_ ?_;exact zI)|(refine And.intro ?_ ?_<;>intro hg)|exact zC|fail)
   ·rw[hq,Bool.true_and]at hst
    have he:((a[i].name.toList==b[i].name.toList)&&(a[i].token==b[i].token))=true:=by exact hq
    repeat'(first|refine zq (I hat (I hat2 (I hlb (I he (I @Bool.not_true (I @Bool.not_false (I @Bool.and_self (I @za8 zca)))))))) ?_|exact zd (I hat (I hat2 (I hlb (I he (I @Bool.not_true (I @Bool.not_false (I @Bool.and_self (I @za8 zca))))))))|(refine zaa ?_ ?_<;>intro hb)|(refine And.intro ?_ ?_;exact zI)|(refine And.intro ?_ ?_<;>intro hg)|exact zC|fail)
    exact hK _ (i+1) (Gh.canon [] [] [] (zk hw) rfl rfl) hi hst.symm (by omega)
  ·have hi:i=a.length:=by
    have:¬(i:Int)<a.length:=by simpa using hge
    omega
   rw[←hF,zeG hi]
   repeat'(first|refine zq0 ?_|exact zd0|(refine zaa ?_ ?_<;>intro hb)|(refine And.intro ?_ ?_;exact zI)|(refine And.intro ?_ ?_<;>intro hg)|exact zC|fail)
 ·rw[zfY hl]
  repeat'(first|refine zq hl ?_|exact zd hl|(refine zaa ?_ ?_<;>intro hb)|(refine And.intro ?_ ?_;exact zI)|(refine And.intro ?_ ?_<;>intro hg)|exact zC|fail)
theorem zlT (a b:Reply) (ha:a.held.length<2^30) (hb:b.held.length<2^30):CallOK Tryz.prog 89 [.f (.agg a.lent), .f (.agg b.lent)] (fun r o=>r=[rb (eqRe a b)]∧o=[]):=by
 refine zac zar mixed (T:=Ty) (n:=31) Tryz.func89 (c:=Tryz.f89.body.getD .skip) rfl Tryz.results89 Tryz.ntmps89 Tryz.call89 ?_
 simp only[Tryz.f89,Option.getD]
 have hi:=zoE a.held b.held ha hb
 repeat'(first|refine zq0 ?_|exact zd0|refine zc (hi) ?_|refine zg (hi) ?_|(refine zaa ?_ ?_<;>intro hb)|(refine And.intro ?_ ?_;exact zI)|(refine And.intro ?_ ?_<;>intro hg)|exact zC|fail)
 rfl
set_option maxHeartbeats 1000000 in
theorem zqR (a b:List Sess) (ha:a.length<2^30) (hb:b.length<2^30):CallOK Tryz.prog 48 [.f (al a.length (zaE a)), .f (al b.length (zaE b))] (fun r o=>r=[rb (zdl zum a b)]∧o=[]):=by
 refine zac zar mixed (T:=Ty) (n:=26) Tryz.func48 (c:=Tryz.f48.body.getD .skip) rfl Tryz.results48 Tryz.ntmps48 Tryz.call48 ?_
 simp only[Tryz.f48,Option.getD]
 cases hl:((a.length:Int) !=(b.length:Int))
 ·obtain⟨hle,hsr⟩:=zfZ (eq:=zum) hl
  rw[hsr]
  repeat'(first|refine zq hl ?_|exact zd hl|(refine zaa ?_ ?_<;>intro hb)|(refine And.intro ?_ ?_;exact zI)|(refine And.intro ?_ ?_<;>intro hg)|exact zC|fail)
  refine zao (τ:=Nat) (fun i=>⟨[al a.length (zaE a),al b.length (zaE b),dd,dd,dd,ai i,dd,dd,dd,dd,dd,dd,dd,dd,dd,dd,dd,dd,dd,dd,dd,dd,dd,dd,dd,dd],[]⟩)
   (fun i=>i≤a.length) (fun i=>zgK zum a b i) (fun i=>a.length - i) 0
   (Gh.canon [] [] [] zK rfl rfl) (Nat.zero_le _) ?_
  intro i hi0 hF K hK
  refine zw ?_
  refine zaa (fun hlt=> ?_) (fun hge=> ?_)
  ·have hi:i<a.length:=by simpa using hlt
   have hi2:i<b.length:=by omega
   have hat:=zbM hi
   have hat2:=zbM hi2
   have hw:=zan hi (by omega)
   have hlb:decide ((i:Int)<a.length)=true:=by simp;omega
   have hst:=zdW (eq:=zum) hi hi2
   cases hq:zum a[i] b[i]
   ·rw[hq]at hst
    have he:((a[i].client==b[i].client)&&((a[i].num==b[i].num)&&(a[i].renewed==b[i].renewed)))=false:=by exact hq
    rw[←hF,hst]
    repeat'(first|refine zq (I hat (I hat2 (I hlb (I he (I @Bool.not_true (I @Bool.not_false (I @Bool.and_self (I @zai zca)))))))) ?_|exact zd (I hat (I hat2 (I hlb (I he (I @Bool.not_true (I @Bool.not_false (I @Bool.and_self (I @zai zca))))))))|(refine zaa ?_ ?_<;>intro hb)|(refine And.intro ?_ ?_;exact zI)|(refine And.intro ?_ ?_<;>intro hg)|exact zC|fail)
   ·rw[hq,Bool.true_and]at hst
    have he:((a[i].client==b[i].client)&&((a[i].num==b[i].num)&&(a[i].renewed==b[i].renewed)))=true:=by exact hq
    repeat'(first|refine zq (I hat (I hat2 (I hlb (I he (I @Bool.not_true (I @Bool.not_false (I @Bool.and_self (I @zai zca)))))))) ?_|exact zd (I hat (I hat2 (I hlb (I he (I @Bool.not_true (I @Bool.not_false (I @Bool.and_self (I @zai zca))))))))|(refine zaa ?_ ?_<;>intro hb)|(refine And.intro ?_ ?_;exact zI)|(refine And.intro ?_ ?_<;>intro hg)|exact zC|fail)
    exact hK _ (i+1) (Gh.canon [] [] [] (zk hw) rfl rfl) hi hst.symm (by omega)
  ·have hi:i=a.length:=by
    have:¬(i:Int)<a.length:=by simpa using hge
    omega
   rw[←hF,zeG hi]
   repeat'(first|refine zq0 ?_|exact zd0|(refine zaa ?_ ?_<;>intro hb)|(refine And.intro ?_ ?_;exact zI)|(refine And.intro ?_ ?_<;>intro hg)|exact zC|fail)
 ·rw[zfY hl]
  repeat'(first|refine zq hl ?_|exact zd hl|(refine zaa ?_ ?_<;>intro hb)|(refine And.intro ?_ ?_;exact zI)|(refine And.intro ?_ ?_<;>intro hg)|exact zC|fail)
set_option maxHeartbeats 1000000 in
theorem zoF (a b:List Lk) (ha:a.length<2^30) (hb:b.length<2^30) (hla:∀x∈a,x.line.length<2^30) (hlb2:∀x∈b,x.line.length<2^30):CallOK Tryz.prog 49 [.f (al a.length (zaf a)), .f (al b.length (zaf b))] (fun r o=>r=[rb (zdl zsl a b)]∧o=[]):=by
 refine zac zar mixed (T:=Ty) (n:=68) Tryz.func49 (c:=Tryz.f49.body.getD .skip) rfl Tryz.results49 Tryz.ntmps49 Tryz.call49 ?_
 simp only[Tryz.f49,Option.getD]
 cases hl:((a.length:Int) !=(b.length:Int))
 ·obtain⟨hle,hsr⟩:=zfZ (eq:=zsl) hl
  rw[hsr]
  repeat'(first|refine zq hl ?_|exact zd hl|(refine zaa ?_ ?_<;>intro hb)|(refine And.intro ?_ ?_;exact zI)|(refine And.intro ?_ ?_<;>intro hg)|exact zC|fail)
  refine zao (τ:=Nat) (fun i=>⟨[al a.length (zaf a),al b.length (zaf b),dd,dd,dd,ai i,dd,dd,dd,dd,dd,dd,dd,dd,dd,dd,dd,dd,dd,dd,dd,dd,dd,dd,dd,dd,dd,dd,dd,dd,dd,dd,dd,dd,dd,dd,dd,dd,dd,dd,dd,dd,dd,dd,dd,dd,dd,dd,dd,dd,dd,dd,dd,dd,dd,dd,dd,dd,dd,dd,dd,dd,dd,dd,dd,dd,dd,dd],[]⟩)
   (fun i=>i≤a.length) (fun i=>zgK zsl a b i) (fun i=>a.length - i) 0
   (Gh.canon [] [] [] zK rfl rfl) (Nat.zero_le _) ?_
  intro i hi0 hF K hK
  refine zw ?_
  refine zaa (fun hlt=> ?_) (fun hge=> ?_)
  ·have hi:i<a.length:=by simpa using hlt
   have hi2:i<b.length:=by omega
   have hat:=zaO hi
   have hat2:=zaO hi2
   have hw:=zan hi (by omega)
   have hlb:decide ((i:Int)<a.length)=true:=by simp;omega
   have hst:=zdW (eq:=zsl) hi hi2
   have hd1:(zaf a).drop (i*4+1)=iD a[i].holder::iD a[i].token:: .sl a[i].line.length (zaw a[i].line)::zaf (a.drop (i+1)):=by rw[←List.drop_drop,hat];rfl
   have hd2:(zaf b).drop (i*4+1)=iD b[i].holder::iD b[i].token:: .sl b[i].line.length (zaw b[i].line)::zaf (b.drop (i+1)):=by rw[←List.drop_drop,hat2];rfl
   have hsi:=zl3 a[i].line b[i].line (by have:=hla _ (List.getElem_mem hi);omega) (by have:=hlb2 _ (List.getElem_mem hi2);omega)
   cases hq:zsl a[i] b[i]
   ·rw[hq]at hst
    have he:((((!(a[i].name.toList==b[i].name.toList))||(a[i].holder !=b[i].holder))||(a[i].token !=b[i].token))|| !sameI a[i].line b[i].line)=true:=by unfold zsl at hq;rw[zqQ];revert hq;cases zdl zoD a[i].line b[i].line<;>cases h1:(a[i].name.toList==b[i].name.toList)<;>cases h2:(a[i].holder==b[i].holder)<;>cases h3:(a[i].token==b[i].token)<;>simp[bne,h1,h2,h3]
    rw[←hF,hst]
    repeat'(first|refine zq (I hat (I hat2 (I hlb (I he (I @Bool.not_true (I @Bool.not_false (I @Bool.and_self (I hd1 (I hd2 (I @zae zca)))))))))) ?_|exact zd (I hat (I hat2 (I hlb (I he (I @Bool.not_true (I @Bool.not_false (I @Bool.and_self (I hd1 (I hd2 (I @zae zca))))))))))|refine zc (hsi) ?_|refine zg (hsi) ?_|(refine zaa ?_ ?_<;>intro hb)|(refine And.intro ?_ ?_;exact zI)|(refine And.intro ?_ ?_<;>intro hg)|exact zC|fail)
   ·rw[hq,Bool.true_and]at hst
    have he:((((!(a[i].name.toList==b[i].name.toList))||(a[i].holder !=b[i].holder))||(a[i].token !=b[i].token))|| !sameI a[i].line b[i].line)=false:=by unfold zsl at hq;rw[zqQ];revert hq;cases zdl zoD a[i].line b[i].line<;>cases h1:(a[i].name.toList==b[i].name.toList)<;>cases h2:(a[i].holder==b[i].holder)<;>cases h3:(a[i].token==b[i].token)<;>simp[bne,h1,h2,h3]
    repeat'(first|refine zq (I hat (I hat2 (I hlb (I he (I @Bool.not_true (I @Bool.not_false (I @Bool.and_self (I hd1 (I hd2 (I @zae zca)))))))))) ?_|exact zd (I hat (I hat2 (I hlb (I he (I @Bool.not_true (I @Bool.not_false (I @Bool.and_self (I hd1 (I hd2 (I @zae zca))))))))))|refine zc (hsi) ?_|refine zg (hsi) ?_|(refine zaa ?_ ?_<;>intro hb)|(refine And.intro ?_ ?_;exact zI)|(refine And.intro ?_ ?_<;>intro hg)|exact zC|fail)
    exact hK _ (i+1) (Gh.canon [] [] [] (zk hw) rfl rfl) hi hst.symm (by omega)
  ·have hi:i=a.length:=by
    have:¬(i:Int)<a.length:=by simpa using hge
    omega
   rw[←hF,zeG hi]
   repeat'(first|refine zq0 ?_|exact zd0|(refine zaa ?_ ?_<;>intro hb)|(refine And.intro ?_ ?_;exact zI)|(refine And.intro ?_ ?_<;>intro hg)|exact zC|fail)
 ·rw[zfY hl]
  repeat'(first|refine zq hl ?_|exact zd hl|(refine zaa ?_ ?_<;>intro hb)|(refine And.intro ?_ ?_;exact zI)|(refine And.intro ?_ ?_<;>intro hg)|exact zC|fail)
set_option maxHeartbeats 1000000 in
theorem zoG (a b:List Memo) (ha:a.length<2^30) (hb:b.length<2^30) (hla:∀x∈a,x.reply.held.length<2^30) (hlb2:∀x∈b,x.reply.held.length<2^30):CallOK Tryz.prog 50 [.f (al a.length (zav a)), .f (al b.length (zav b))] (fun r o=>r=[rb (zdl zj4 a b)]∧o=[]):=by
 refine zac zar mixed (T:=Ty) (n:=55) Tryz.func50 (c:=Tryz.f50.body.getD .skip) rfl Tryz.results50 Tryz.ntmps50 Tryz.call50 ?_
 simp only[Tryz.f50,Option.getD]
 cases hl:((a.length:Int) !=(b.length:Int))
 ·obtain⟨hle,hsr⟩:=zfZ (eq:=zj4) hl
  rw[hsr]
  repeat'(first|refine zq hl ?_|exact zd hl|(refine zaa ?_ ?_<;>intro hb)|(refine And.intro ?_ ?_;exact zI)|(refine And.intro ?_ ?_<;>intro hg)|exact zC|fail)
  refine zao (τ:=Nat) (fun i=>⟨[al a.length (zav a),al b.length (zav b),dd,dd,dd,ai i,dd,dd,dd,dd,dd,dd,dd,dd,dd,dd,dd,dd,dd,dd,dd,dd,dd,dd,dd,dd,dd,dd,dd,dd,dd,dd,dd,dd,dd,dd,dd,dd,dd,dd,dd,dd,dd,dd,dd,dd,dd,dd,dd,dd,dd,dd,dd,dd,dd],[]⟩)
   (fun i=>i≤a.length) (fun i=>zgK zj4 a b i) (fun i=>a.length - i) 0
   (Gh.canon [] [] [] zK rfl rfl) (Nat.zero_le _) ?_
  intro i hi0 hF K hK
  refine zw ?_
  refine zaa (fun hlt=> ?_) (fun hge=> ?_)
  ·have hi:i<a.length:=by simpa using hlt
   have hi2:i<b.length:=by omega
   have hat:=zbx hi
   have hat2:=zbx hi2
   have hw:=zan hi (by omega)
   have hlb:decide ((i:Int)<a.length)=true:=by simp;omega
   have hst:=zdW (eq:=zj4) hi hi2
   have hd1:(zav a).drop (i*6+1)=iD a[i].seq::(a[i].reply.enc++zav (a.drop (i+1))):=by rw[←List.drop_drop,hat];rfl
   have hd2:(zav b).drop (i*6+1)=iD b[i].seq::(b[i].reply.enc++zav (b.drop (i+1))):=by rw[←List.drop_drop,hat2];rfl
   have hsr:=zlT a[i].reply b[i].reply (hla _ (List.getElem_mem hi)) (hlb2 _ (List.getElem_mem hi2))
   have hme:zj4 a[i] b[i]=((a[i].client==b[i].client)&&(a[i].seq==b[i].seq)&&eqRe a[i].reply b[i].reply):=by unfold zj4 eqRe;simp only[Bool.and_assoc]
   cases hq:zj4 a[i] b[i]
   ·rw[hq]at hst
    have he:(((a[i].client !=b[i].client)||(a[i].seq !=b[i].seq))|| !eqRe a[i].reply b[i].reply)=true:=by rw[hme]at hq;revert hq;cases eqRe a[i].reply b[i].reply<;>cases h1:(a[i].client==b[i].client)<;>cases h2:(a[i].seq==b[i].seq)<;>simp[bne,h1,h2]
    rw[←hF,hst]
    repeat'(first|refine zq (I hat (I hat2 (I hlb (I he (I @Bool.not_true (I @Bool.not_false (I @Bool.and_self (I hd1 (I hd2 (I @zak zca)))))))))) ?_|exact zd (I hat (I hat2 (I hlb (I he (I @Bool.not_true (I @Bool.not_false (I @Bool.and_self (I hd1 (I hd2 (I @zak zca))))))))))|refine zc (hsr) ?_|refine zg (hsr) ?_|(refine zaa ?_ ?_<;>intro hb)|(refine And.intro ?_ ?_;exact zI)|(refine And.intro ?_ ?_<;>intro hg)|exact zC|fail)
   ·rw[hq,Bool.true_and]at hst
    have he:(((a[i].client !=b[i].client)||(a[i].seq !=b[i].seq))|| !eqRe a[i].reply b[i].reply)=false:=by rw[hme]at hq;revert hq;cases eqRe a[i].reply b[i].reply<;>cases h1:(a[i].client==b[i].client)<;>cases h2:(a[i].seq==b[i].seq)<;>simp[bne,h1,h2]
    repeat'(first|refine zq (I hat (I hat2 (I hlb (I he (I @Bool.not_true (I @Bool.not_false (I @Bool.and_self (I hd1 (I hd2 (I @zak zca)))))))))) ?_|exact zd (I hat (I hat2 (I hlb (I he (I @Bool.not_true (I @Bool.not_false (I @Bool.and_self (I hd1 (I hd2 (I @zak zca))))))))))|refine zc (hsr) ?_|refine zg (hsr) ?_|(refine zaa ?_ ?_<;>intro hb)|(refine And.intro ?_ ?_;exact zI)|(refine And.intro ?_ ?_<;>intro hg)|exact zC|fail)
    exact hK _ (i+1) (Gh.canon [] [] [] (zk hw) rfl rfl) hi hst.symm (by omega)
  ·have hi:i=a.length:=by
    have:¬(i:Int)<a.length:=by simpa using hge
    omega
   rw[←hF,zeG hi]
   repeat'(first|refine zq0 ?_|exact zd0|(refine zaa ?_ ?_<;>intro hb)|(refine And.intro ?_ ?_;exact zI)|(refine And.intro ?_ ?_<;>intro hg)|exact zC|fail)
 ·rw[zfY hl]
  repeat'(first|refine zq hl ?_|exact zd hl|(refine zaa ?_ ?_<;>intro hb)|(refine And.intro ?_ ?_;exact zI)|(refine And.intro ?_ ?_<;>intro hg)|exact zC|fail)
theorem znK (a b:St) (ha:Small a) (hb:Small b):CallOK Tryz.prog 18 [.f (.agg a.lent), .f (.agg b.lent)] (fun r o=>r=[rb (zvn a b)]∧o=[]):=by
 refine zac zar mixed (T:=Ty) (n:=45) Tryz.func18 (c:=Tryz.f18.body.getD .skip) rfl Tryz.results18 Tryz.ntmps18 Tryz.call18 ?_
 simp only[Tryz.f18,Option.getD]
 have h1:=zqR a.sess b.sess ha.sess hb.sess
 have h2:=zoF a.locks b.locks ha.locks hb.locks (fun k hk=>(ha.line k hk).1) (fun k hk=>(hb.line k hk).1)
 have h3:=zoG a.memos b.memos ha.memos hb.memos (fun k hk=>(ha.held k hk).1) (fun k hk=>(hb.held k hk).1)
 repeat'(first|refine zq0 ?_|exact zd0|refine zc (h1) ?_|refine zg (h1) ?_|refine zc (h2) ?_|refine zg (h2) ?_|refine zc (h3) ?_|refine zg (h3) ?_|(refine zaa ?_ ?_<;>intro hb)|(refine And.intro ?_ ?_;exact zI)|(refine And.intro ?_ ?_<;>intro hg)|exact zC|fail)
 rfl
end Go.Proofs.YtngleemijkaeoaaGreat
