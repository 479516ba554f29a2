import Derived.Test.YtbpmcjeeeiffhaaGreatK9
import Derived.Test.YtbpmcjeeeiffhaaGreatVG
namespace Go.Proofs.YtbpmcjeeeiffhaaGreat
open Go.Pk
set_option maxRecDepth 100000
set_option linter.unusedSimpArgs false
set_option linter.unusedVariables false
theorem zlE (l:List Memo) (hl:l.length<2^62) (c q:Int):CallOK Tryz.prog 99 [.f (al l.length (zaC l)), .f (ai c), .f (ai q)] (fun r o=>r=[ri (zcI l c q)]∧o=[]):=by
 refine zac zas mixed (T:=Ty) (n:=29) Tryz.func99 (c:=Tryz.f99.body.getD .skip) rfl Tryz.results99 Tryz.ntmps99 Tryz.call99 ?_
 simp only[Tryz.f99,Option.getD]
 have hla:=zj4 l hl c
 cases hf:zb3 l c with
 |none=>
  rw[hf]at hla
  simp only[Option.isSome_none,Option.getD_none]at hla
  have:zcI l c q=1:=by unfold zcI;rw[hf]
  rw[this]
  repeat'(first|refine zq0 ?_|exact zd0|refine zc (hla) ?_|refine zg (hla) ?_|(refine zaa ?_ ?_<;>intro hb)|(refine And.intro ?_ ?_;exact zI)|(refine And.intro ?_ ?_<;>intro hg)|exact zC|fail)
 |some m=>
  rw[hf]at hla
  simp only[Option.isSome_some,Option.getD_some]at hla
  have:zcI l c q=if decide (m.seq<q)=true then 1 else if(m.seq==q)=true then 0 else -1:=by unfold zcI;rw[hf];simp only[decide_eq_true_eq,beq_iff_eq]
  rw[this]
  cases h1:decide (m.seq<q)
  ·cases h2:(m.seq==q)
   ·repeat'(first|refine zq (I h1 h2) ?_|exact zd (I h1 h2)|refine zc (hla) ?_|refine zg (hla) ?_|(refine zaa ?_ ?_<;>intro hb)|(refine And.intro ?_ ?_;exact zI)|(refine And.intro ?_ ?_<;>intro hg)|exact zC|fail)
   ·repeat'(first|refine zq (I h1 h2) ?_|exact zd (I h1 h2)|refine zc (hla) ?_|refine zg (hla) ?_|(refine zaa ?_ ?_<;>intro hb)|(refine And.intro ?_ ?_;exact zI)|(refine And.intro ?_ ?_<;>intro hg)|exact zC|fail)
  ·repeat'(first|refine zq h1 ?_|exact zd h1|refine zc (hla) ?_|refine zg (hla) ?_|(refine zaa ?_ ?_<;>intro hb)|(refine And.intro ?_ ?_;exact zI)|(refine And.intro ?_ ?_<;>intro hg)|exact zC|fail)
def kR (a:Memo):List Memo→Bool→List Memo
 |[],put=>if put=true then []else [a]
 |m::r,put=>if(m.client==a.client)=true then a::kR a r true else if(!put&&decide (m.client>a.client))=true then a::m::kR a r true else m::kR a r put
theorem zmI {a:Memo}:∀{l:List Memo},(∀m∈l,(m.client==a.client)=false)→kR a l true=l
 |[],_=>rfl
 |m::r,h=>by
  rw[kR,if_neg (by rw[h m List.mem_cons_self];simp),if_neg (by simp),zmI fun x hx=>h x (List.mem_cons_of_mem _ hx)]
theorem zq4 {a:Memo}:∀{l:List Memo},SM l→kR a l false=if(zb3 l a.client).isSome=true then l.set (zl0 l a.client) a else l.take (zl0 l a.client)++a::l.drop (zl0 l a.client)
 |[],_=>rfl
 |m::r,hs=>by
  have hs':=List.pairwise_cons.1 hs
  rw[kR]
  by_cases h1:m.client=a.client
  ·have hp:zl0 (m::r) a.client=0:=by unfold zl0;rw[zcK,if_neg (by simp;omega)]
   have hf:(zb3 (m::r) a.client).isSome=true:=by unfold zb3;rw[List.find?_cons_of_pos (by simpa using h1)];rfl
   rw[if_pos (by simpa using h1),if_pos hf,hp,List.set_cons_zero,zmI fun x hx=>by have:=hs'.1 x hx;simp;omega]
  ·rw[if_neg (by simpa using h1)]
   by_cases h2:m.client>a.client
   ·have hp:zl0 (m::r) a.client=0:=by unfold zl0;rw[zcK,if_neg (by simp;omega)]
    have hf:(zb3 (m::r) a.client).isSome=false:=by
     rw[Option.isSome_eq_false_iff,Option.isNone_iff_eq_none]
     refine List.find?_eq_none.2 fun x hx=> ?_
     rcases List.mem_cons.1 hx with rfl|hx
     ·simpa using h1
     ·have:=hs'.1 x hx;simp;omega
    rw[if_pos (by simpa using h2),hf,if_neg (by simp),hp,zmI fun x hx=>by have:=hs'.1 x hx;simp;omega]
    rfl
   ·have hp:zl0 (m::r) a.client=zl0 r a.client+1:=by unfold zl0;rw[zcK,if_pos (by simp;omega)]
    have hf:zb3 (m::r) a.client=zb3 r a.client:=by unfold zb3;rw[List.find?_cons_of_neg (by simpa using h1)]
    rw[if_neg (by simpa using h2),zq4 hs'.2,hf,hp]
    split<;>rfl
theorem zva {a:Memo} {l:List Memo} {i:Nat} {put:Bool} (hi:i<l.length):kR a (l.drop i) put=if(l[i].client==a.client)=true then a::kR a (l.drop (i+1)) true else if(!put&&decide (l[i].client>a.client))=true then a::l[i]::kR a (l.drop (i+1)) true else l[i]::kR a (l.drop (i+1)) put:=by
 rw[List.drop_eq_getElem_cons hi,kR]
abbrev zyJ (a:Memo):List C:=[di a.client,di a.seq,di a.reply.code,di a.reply.session,di a.reply.ahead, .d (.sl a.reply.held.length (zaG a.reply.held))]
set_option maxHeartbeats 2000000 in
theorem zsS (l:List Memo) (hs:SM l) (hl:l.length<2^30) (a:Memo) (ha:answerB a=true) (har:zcd a.reply) (hf:zcI l a.client a.seq=1):
  CallOK Tryz.prog 101 [.f (al l.length (zaC l)), .f (.agg (a.enc.map C.d))] (fun r o=>r=[.one (.own 6 (zkb l a).length (zaC (zkb l a)) false)]∧o=[]):=by
 refine CallOK.nil ?_
 have hk:zkb l a=kR a l false:=by
  rw[zq4 hs]
  unfold zkb
  rw[if_neg (by rw[ha,hf];simp)]
 rw[hk]
 refine zac zas mixed (T:=Ty) (n:=79) Tryz.func101 (c:=Tryz.f101.body.getD .skip) rfl Tryz.results101 Tryz.ntmps101 Tryz.call101 ?_
 simp only[Tryz.f101,Option.getD]
 have hma:=zkl a har
 rw[ha]at hma
 have hfr:=zlE l (by omega) a.client a.seq
 rw[hf]at hfr
 have h11:((1:Int) !=1)=false:=rfl
 repeat'(first|refine zq h11 ?_|exact zd h11|refine zc (hma) ?_|refine zg (hma) ?_|refine zc (hfr) ?_|refine zg (hfr) ?_|(refine zaa ?_ ?_<;>intro hb)|(refine And.intro ?_ ?_;exact zI)|(refine And.intro ?_ ?_<;>intro hg)|exact zC|fail)
 refine zam (τ:=Nat×Bool×List Memo) (fun t=>⟨[al l.length (zaC l),dd,dd, .one (.ptr ⟨3,0,1⟩ 0),dd, .one (.ptr ⟨5,0,1⟩ 0), .one (.own ⟨6,1,1⟩ 0 t.2.2.length),ab t.2.1,ai t.1,dd,dd,dd,dd,dd,dd,dd,dd,dd,dd,dd,dd,dd,dd,dd,dd,dd,dd,dd,dd,dd,dd,dd,dd,dd,dd,dd,dd,dd,dd,dd,dd,dd,dd,dd,dd,dd,dd,dd,dd,dd,dd,dd,dd,dd,dd,dd,dd,dd,dd,dd,dd,dd,dd,dd,dd,dd,dd,dd,dd,dd,dd,dd,dd,dd,dd,dd,dd,dd,dd],
   [(3,{next:=2,l:=[some {e:=1,var:=true,fz:=false,sz:=0,cells:=[di a.client,di a.seq,di a.reply.code,di a.reply.session,di a.reply.ahead, .d (.sl a.reply.held.length (zaG a.reply.held))]},none,none,none,none,none,none]}),(5,{next:=2,l:=[some {e:=1,var:=true,fz:=false,sz:=0,cells:=[di a.client,di a.seq,di a.reply.code,di a.reply.session,di a.reply.ahead, .d (.sl a.reply.held.length (zaG a.reply.held))]},none,none,none,none,none,none]}),(6,{next:=2,l:=[none,some {e:=1,var:=false,fz:=false,sz:=6,cells:=(zaC t.2.2).map C.d}]}),(47,⟨2,[]⟩),(48,⟨2,[]⟩),(63,⟨2,[]⟩),(64,⟨2,[]⟩),(70,⟨2,[]⟩),(71,⟨2,[]⟩)]⟩)
  (fun t=>t.1≤l.length∧t.2.2.length≤t.1+1+1∧(t.2.1=false→t.2.2.length≤t.1)) (fun t=>t.2.2++kR a (l.drop t.1) t.2.1) (fun t=>l.length - t.1) (0,false,[])
  ((Gh.nil (i:=6) (s:=6) (sz:=6) rfl).trans (Gh.canon [3,5,6] [47,48,63,64,70,71] [] zK rfl rfl)) ⟨Nat.zero_le _,by simp,by simp⟩ ?_
 rintro⟨i,put,m⟩ ⟨hi0,hm1,hm2⟩ hF K hK
 simp only[List.drop_zero,List.nil_append]at hi0 hm1 hm2 hF hK⊢
 refine zw ?_
 refine zaa (fun hlt=> ?_) (fun hge=> ?_)
 ·have hi:i<l.length:=by simpa using hlt
  have hat:=zcY hi
  have hw:=zaq hi (by omega)
  have hd:=zva (a:=a) (put:=put) hi
  have hb1:((m.length+1)*64≤2^47)=True:=eq_true (by omega)
  have hb2:((m.length+1+1)*64≤2^47)=True:=eq_true (by omega)
  have hsA:zaC m++[iD a.client,iD a.seq,iD a.reply.code,iD a.reply.session,iD a.reply.ahead, .sl a.reply.held.length (zaG a.reply.held)]=zaC (m++[a]):=by rw[zdr]
  cases h1:(l[i].client==a.client)
  ·rw[if_neg (by rw[h1];simp)]at hd
   cases h2:(!put&&decide (l[i].client>a.client))
   ·rw[h2,if_neg (by simp)]at hd
    have hsB:zaC m++[iD l[i].client,iD l[i].seq,iD l[i].reply.code,iD l[i].reply.session,iD l[i].reply.ahead, .sl l[i].reply.held.length (zaG l[i].reply.held)]=zaC (m++[l[i]]):=by rw[zdr]
    repeat'(first|refine zq (I hat (I h1 (I h2 (I hb1 (I hsB (I @zaD zca)))))) ?_|exact zd (I hat (I h1 (I h2 (I hb1 (I hsB (I @zaD zca))))))|(refine zaa ?_ ?_<;>intro hb)|(refine And.intro ?_ ?_;exact zI)|(refine And.intro ?_ ?_<;>intro hg)|exact zC|fail)
    exact hK _ (i+1,put,m++[l[i]]) (Gh.canon [3,5,6] [] [] (zk (I hw (I @List.length_append.{0} @List.length_singleton.{0}))) rfl rfl) ⟨hi,by simp;omega,fun hp=>by have:=hm2 hp;simp;omega⟩ (by simp only;rw[hd];simp) (by simp only;omega)
   ·rw[h2,if_pos rfl]at hd
    have hsB:zaC (m++[a])++[iD l[i].client,iD l[i].seq,iD l[i].reply.code,iD l[i].reply.session,iD l[i].reply.ahead, .sl l[i].reply.held.length (zaG l[i].reply.held)]=zaC (m++[a]++[l[i]]):=by rw[zdr (l:=m++[a])]
    have htA:(zaC (m++[a])).take ((m.length+1)*6)=zaC (m++[a]):=by have:=za8 (l:=m++[a]);rwa[List.length_append,List.length_singleton]at this
    repeat'(first|refine zq (I hat (I h1 (I h2 (I hb1 (I hb2 (I hsA (I htA (I hsB (I @zaD zca))))))))) ?_|exact zd (I hat (I h1 (I h2 (I hb1 (I hb2 (I hsA (I htA (I hsB (I @zaD zca)))))))))|(refine zaa ?_ ?_<;>intro hb)|(refine And.intro ?_ ?_;exact zI)|(refine And.intro ?_ ?_<;>intro hg)|exact zC|fail)
    have hpf:put=false:=by cases put;rfl;simp at h2
    have hm3:=hm2 hpf
    exact hK _ (i+1,true,m++[a]++[l[i]]) (Gh.canon [3,5,6] [] [] (zk (I hw (I @List.length_append.{0} @List.length_singleton.{0}))) rfl rfl) ⟨hi,by simp;omega,fun hp=>by cases hp⟩ (by simp only;rw[hd];simp) (by simp only;omega)
  ·rw[if_pos h1]at hd
   repeat'(first|refine zq (I hat (I h1 (I hb1 (I hsA (I @zaD zca))))) ?_|exact zd (I hat (I h1 (I hb1 (I hsA (I @zaD zca)))))|(refine zaa ?_ ?_<;>intro hb)|(refine And.intro ?_ ?_;exact zI)|(refine And.intro ?_ ?_<;>intro hg)|exact zC|fail)
   exact hK _ (i+1,true,m++[a]) (Gh.canon [3,5,6] [] [] (zk (I hw (I @List.length_append.{0} @List.length_singleton.{0}))) rfl rfl) ⟨hi,by simp;omega,fun hp=>by cases hp⟩ (by simp only;rw[hd];simp) (by simp only;omega)
 ·have hi:i=l.length:=by
   have:¬(i:Int)<l.length:=by simpa using hge
   omega
  subst hi
  rw[List.drop_length,kR]at hF
  have hb1:((m.length+1)*64≤2^47)=True:=eq_true (by omega)
  have hsA:zaC m++[iD a.client,iD a.seq,iD a.reply.code,iD a.reply.session,iD a.reply.ahead, .sl a.reply.held.length (zaG a.reply.held)]=zaC (m++[a]):=by rw[zdr]
  cases put
  ·repeat'(first|refine zq (I hb1 (I hsA (I @zaD zca))) ?_|exact zd (I hb1 (I hsA (I @zaD zca)))|(refine zaa ?_ ?_<;>intro hb)|(refine And.intro ?_ ?_;exact zI)|(refine And.intro ?_ ?_<;>intro hg)|exact zC|fail)
   have hF':m++[a]=kR a l false:=hF
   rw[←hF']
   show zaz _ _∧True
   simp[zaz]
  ·repeat'(first|refine zq (I hb1 hsA) ?_|exact zd (I hb1 hsA)|(refine zaa ?_ ?_<;>intro hb)|(refine And.intro ?_ ?_;exact zI)|(refine And.intro ?_ ?_<;>intro hg)|exact zC|fail)
   have hF':m=kR a l false:=by rw[←hF];simp
   rw[←hF']
   show zaz _ _∧True
   simp[zaz]
theorem zlF (l:List Memo) (c q:Int):zcI l c q=1∨zcI l c q=0∨zcI l c q= -1:=by
 unfold zcI
 cases zb3 l c with
 |none=>exact .inl rfl
 |some m=>simp only;split;exact .inl rfl;split;exact .inr (.inl rfl);exact .inr (.inr rfl)
abbrev zq5 (a:Reply):RF:= .agg [.d (iD a.code), .d (iD a.session), .d (iD a.ahead), .d (.sl a.held.length (zaG a.held))]
set_option maxHeartbeats 4000000 in
theorem zq6 (s:St) (h:Small s) (hr:RightS s) (r:Req) (hro:r.ok) (hdr:Req.may r=true→answerB ⟨r.client,r.seq,(zbm s r).2⟩=true) (hdo:Req.may r=true→zcd (zbm s r).2):
  CallOK Tryz.prog 56 [.f (zu4 s), .f (.agg (r.enc.map C.d))]
  (fun x o=>x=[zu5 (zd9 s r).1,zq5 (zd9 s r).2.1,rb (zd9 s r).2.2]∧o=[]):=by
 refine CallOK.nil ?_
 refine zac zas mixed (T:=Ty) (n:=59) Tryz.func56 (c:=Tryz.f56.body.getD .skip) rfl Tryz.results56 Tryz.ntmps56 Tryz.call56 ?_
 simp only[Tryz.f56,Option.getD]
 have hmr:=zoM r hro
 have hfr:=zlE s.memos (by have:=h.memos;omega) r.client r.seq
 cases hm:Req.may r
 ·rw[hm]at hmr
  have ha:zd9 s r=(s,⟨1,0,0,[]⟩,false):=by unfold zd9;rw[if_pos (by rw[hm];rfl)]
  rw[ha]
  repeat'(first|refine zq0 ?_|exact zd0|refine zc (hmr) ?_|refine zg (hmr) ?_|(refine zaa ?_ ?_<;>intro hb)|(refine And.intro ?_ ?_;exact zI)|(refine And.intro ?_ ?_<;>intro hg)|exact zC|fail)
  simp[zbO,zfo,zbH,zaz]
 ·rw[hm]at hmr
  have hap:zd9 s r=if decide (zcI s.memos r.client r.seq<0)=true then(s,⟨0,0,0,[]⟩,false)else if(zcI s.memos r.client r.seq==0)=true then(s,((zb3 s.memos r.client).map Memo.reply).getD ⟨0,0,0,[]⟩,false)else
    ({(zbm s r).1 with memos:=zkb (zbm s r).1.memos ⟨r.client,r.seq,(zbm s r).2⟩},(zbm s r).2,true):=by
   unfold zd9
   rw[if_neg (by rw[hm];simp)]
   have hc:=zlF s.memos r.client r.seq
   rcases hc with e|e|e<;>rw[e]<;>rfl
  cases f1:decide (zcI s.memos r.client r.seq<0)
  ·rw[if_neg (by rw[f1];simp)]at hap
   cases f2:(zcI s.memos r.client r.seq==0)
   ·rw[if_neg (by rw[f2];simp)]at hap
    rw[hap]
    have hdn:=zsV s h hr r hro hm
    have hdm:=zoA h r
    have hf1:zcI s.memos r.client r.seq=1:=by
     rcases zlF s.memos r.client r.seq with e|e|e
     ·exact e
     ·rw[e]at f2;cases f2
     ·rw[e]at f1;cases f1
    have hke:=zsS s.memos hr.ms h.memos ⟨r.client,r.seq,(zbm s r).2⟩ (hdr hm) (hdo hm) hf1
    rw[hdm]
    repeat'(first|(with_reducible first|refine za6 10 ?_|refine zaL 10 ?_|refine zaM 10 ?_)|refine zu (I f1 (I f2 hdm)) ?_|exact zd (I f1 (I f2 hdm))|(with_reducible first|refine zad _ _ ?_)|refine zc (hmr) ?_|refine zg (hmr) ?_|refine zc (hfr) ?_|refine zg (hfr) ?_|refine zc (hdn) ?_|refine zg (hdn) ?_|(refine zaa ?_ ?_<;>intro hb)|(refine And.intro ?_ ?_;exact zI)|(refine And.intro ?_ ?_<;>intro hg)|exact zC|fail)
    refine za2 (za1 (Gh.sealF 11 3 (.own ⟨11,4,4⟩ 0 (zbm s r).2.held.length) ?_) ?_)
    ·exact zo0
    refine zf0 ?_
    repeat'(first|(with_reducible first|refine za6 11 ?_|refine zaL 11 ?_|refine zaM 11 ?_)|refine zu hdm ?_|exact zd hdm|(with_reducible first|refine zad _ _ ?_)|refine zc (hke) ?_|refine zg (hke) ?_|(refine zaa ?_ ?_<;>intro hb)|(refine And.intro ?_ ?_;exact zI)|(refine And.intro ?_ ?_<;>intro hg)|exact zC|fail)
    refine za2 (za1 (Gh.sealF 10 5 (.own ⟨10,6,7⟩ 0 (zkb s.memos ⟨r.client,r.seq,(zbm s r).2⟩).length) ?_) ?_)
    ·exact zo0
    refine zf0 ?_
    repeat'(first|refine zq hdm ?_|exact zd hdm|(refine zaa ?_ ?_<;>intro hb)|(refine And.intro ?_ ?_;exact zI)|(refine And.intro ?_ ?_<;>intro hg)|exact zC|fail)
    simp[zbO,zfo,zbH,zaz]
   ·rw[if_pos f2]at hap
    rw[hap]
    have hla:=zj4 s.memos (by have:=h.memos;omega) r.client
    repeat'(first|refine zq (I f1 f2) ?_|exact zd (I f1 f2)|refine zc (hmr) ?_|refine zg (hmr) ?_|refine zc (hfr) ?_|refine zg (hfr) ?_|refine zc (hla) ?_|refine zg (hla) ?_|(refine zaa ?_ ?_<;>intro hb)|(refine And.intro ?_ ?_;exact zI)|(refine And.intro ?_ ?_<;>intro hg)|exact zC|fail)
    cases hfm:zb3 s.memos r.client with
    |none=>unfold zcI at f2;rw[hfm]at f2;cases f2
    |some m=>simp[zbO,zfo,zbH,zaz]
  ·rw[if_pos f1]at hap
   rw[hap]
   repeat'(first|refine zq f1 ?_|exact zd f1|refine zc (hmr) ?_|refine zg (hmr) ?_|refine zc (hfr) ?_|refine zg (hfr) ?_|(refine zaa ?_ ?_<;>intro hb)|(refine And.intro ?_ ?_;exact zI)|(refine And.intro ?_ ?_<;>intro hg)|exact zC|fail)
   simp[zbO,zfo,zbH,zaz]
theorem zj3 {T:Nat→Option TI} {P:Program} {x:Code} {g g':G} {Q:Ex→G→Prop} (h:Gh g g') (hl:zov T P x g' Q):zov T P x g Q:=by
 obtain⟨I,n0,⟨g0,h1,h2⟩,h3⟩:=hl
 exact⟨I,n0,⟨g0,h.trans h1,h2⟩,h3⟩
def sameI (a b:List Int):Bool:=(a.length==b.length)&&((a.zip b).all fun p=>p.1==p.2)
theorem zmx (a b:List Int) (ha:a.length<2^62) (hb:b.length<2^62):CallOK Tryz.prog 95 [.f (al a.length (zaE a)), .f (al b.length (zaE b))] (fun r o=>r=[rb (sameI a b)]∧o=[]):=by
 refine zac zas mixed (T:=Ty) (n:=26) Tryz.func95 (c:=Tryz.f95.body.getD .skip) rfl Tryz.results95 Tryz.ntmps95 Tryz.call95 ?_
 simp only[Tryz.f95,Option.getD]
 cases hl:((a.length:Int) !=(b.length:Int))
 ·have hle:a.length=b.length:=by simp at hl;omega
  have hs:sameI a b=(a.zip b).all fun p=>p.1==p.2:=by unfold sameI;rw[hle];simp
  rw[hs]
  repeat'(first|refine zq hl ?_|exact zd hl|(refine zaa ?_ ?_<;>intro hb)|(refine And.intro ?_ ?_;exact zI)|(refine And.intro ?_ ?_<;>intro hg)|exact zC|fail)
  refine zam (τ:=Nat) (fun i=>⟨[al a.length (zaE a),al b.length (zaE b),dd,dd,dd,ai i,dd,dd,dd,dd,dd,dd,dd,dd,dd,dd,dd,dd,dd,dd,dd,dd,dd,dd,dd,dd],[]⟩)
   (fun i=>i≤a.length) (fun i=>((a.drop i).zip (b.drop i)).all fun p=>p.1==p.2) (fun i=>a.length - i) 0
   (Gh.canon [] [] [] zK rfl rfl) (Nat.zero_le _) ?_
  intro i hi0 hF K hK
  rw[List.drop_zero,List.drop_zero]at hF
  refine zw ?_
  refine zaa (fun hlt=> ?_) (fun hge=> ?_)
  ·have hi:i<a.length:=by simpa using hlt
   have hib:i<b.length:=by omega
   have hat:=zcp hi
   have hbt:=zcp hib
   have hw:=zaq hi ha
   have hq:(((a.drop i).zip (b.drop i)).all fun p=>p.1==p.2)=((a[i]==b[i])&&(((a.drop (i+1)).zip (b.drop (i+1))).all fun p=>p.1==p.2)):=by
    rw[List.drop_eq_getElem_cons hi,List.drop_eq_getElem_cons hib,List.zip_cons_cons,List.all_cons]
   rw[hq]at hF
   cases he:a[i] !=b[i]
   ·have he':(a[i]==b[i])=true:=by simpa using he
    rw[he',Bool.true_and]at hq
    repeat'(first|refine zq (I hat (I hbt (I he (I @zak zca)))) ?_|exact zd (I hat (I hbt (I he (I @zak zca))))|(refine zaa ?_ ?_<;>intro hb)|(refine And.intro ?_ ?_;exact zI)|(refine And.intro ?_ ?_<;>intro hg)|exact zC|fail)
    exact hK _ (i+1) (Gh.canon [] [] [] (zk hw) rfl rfl) hi hq.symm (by omega)
   ·have he':(a[i]==b[i])=false:=by simpa using he
    rw[he',Bool.false_and]at hF
    repeat'(first|refine zq (I hat (I hbt (I he (I @zak zca)))) ?_|exact zd (I hat (I hbt (I he (I @zak zca))))|(refine zaa ?_ ?_<;>intro hb)|(refine And.intro ?_ ?_;exact zI)|(refine And.intro ?_ ?_<;>intro hg)|exact zC|fail)
    rw[←hF]
  ·have hi:i=a.length:=by
    have:¬(i:Int)<a.length:=by simpa using hge
    omega
   rw[hi,List.drop_length,List.zip_nil_left,List.all_nil]at hF
   rw[←hF]
   repeat'(first|refine zq0 ?_|exact zd0|(refine zaa ?_ ?_<;>intro hb)|(refine And.intro ?_ ?_;exact zI)|(refine And.intro ?_ ?_<;>intro hg)|exact zC|fail)
 ·have hs:sameI a b=false:=by
   have:(a.length==b.length)=false:=by simp at hl⊢;omega
   unfold sameI;rw[this];rfl
  rw[hs]
  repeat'(first|refine zq hl ?_|exact zd hl|(refine zaa ?_ ?_<;>intro hb)|(refine And.intro ?_ ?_;exact zI)|(refine And.intro ?_ ?_<;>intro hg)|exact zC|fail)
def st0:St:=⟨0,0,0,[],[],[]⟩
def rq0:Req:=⟨3,1,1,0, .empty⟩
theorem zeT:RightS st0:=zdn.1 rfl
def st1:St:=⟨0,1,0,[⟨3,1,0⟩],[],[⟨3,1,⟨0,1,0,[]⟩⟩]⟩
theorem zow (n:Int):(zln n).size≤12:=by
 unfold zln
 rcases six n with h|h|h|h|h|h<;>rw[h]<;>decide
theorem zuX {s:St} (hr:RightS s) {a:Act} (ha:zmy a):(zrM s a).ok:=by
 obtain⟨_,h1,h2,h3,h4,h5⟩:=ha
 unfold zaK at*
 have hH:zbB=2305843009213693952:=rfl
 have hsq:∀c,0≤((zb3 s.memos c).getD zfz).seq∧((zb3 s.memos c).getD zfz).seq≤zbB:=fun c=>by
  cases hf:zb3 s.memos c with
  |none=>decide
  |some m=>
   have:=(zcH (hr.mok m (List.mem_of_find?_eq_some hf))).2.1
   simp only[Option.getD_some];omega
 have hnm:∀c,0≤((zaA s.sess c).getD zeq).num∧((zaA s.sess c).getD zeq).num≤zbB:=fun c=>by
  cases hf:zaA s.sess c with
  |none=>decide
  |some m=>
   have:=(zb7.1 (hr.sok m (List.mem_of_find?_eq_some hf)).1).2.1
   simp only[Option.getD_some];omega
 have hk:1≤ziA a.kind∧ziA a.kind≤6:=by unfold ziA;omega
 have hs:0≤zoy a.kind a.session∧zoy a.kind a.session≤7:=by unfold zoy;split<;>omega
 have hn:(zqy a.kind a.name).size≤12:=by
  unfold zqy
  split
  ·exact zow _
  ·decide
 unfold zrM Req.ok i64 zwj
 simp only
 have:=hsq (a.client % 8)
 have:=hnm (a.client % 8)
 refine⟨by omega, ?_, ?_, ?_, ?_⟩
 ·split
  ·split<;>omega
  ·omega
 ·split<;>omega
 ·split
  ·omega
  ·split<;>omega
 ·split
  ·decide
  ·omega
def zsI (s:St) (a:Act):St:=(zd9 (zci s (s.time+a.time % 16) 60) (zrM (zci s (s.time+a.time % 16) 60) a)).1
def zlm:List Act→St→St
 |[],s=>s
 |a::r,s=>zlm r (zsI s a)
structure Mk (s:St) (i:Nat):Prop where
 rt:RightS s
 num:s.num≤i
 tok:s.token≤8*i
theorem zqv {s:St} {i:Nat} (h:Mk s i) (hi:i≤1000) (a:Act):Mk (zsI s a) (i+1):=by
 have hH:zbB=2305843009213693952:=rfl
 obtain⟨h1,h2,h3⟩:=h
 obtain⟨r1,r2,r3,r4,r5⟩:=zgl h1 (s.time+a.time % 16) 60 (by omega)
 unfold zsI
 obtain⟨d1,d2,d3,d4,d5⟩:=zmA r1 (zrM (zci s (s.time+a.time % 16) 60) a) (by omega) (by omega)
 exact⟨d1,by omega,by omega⟩
theorem zqw:∀{l:List Act} {s:St} {i:Nat},Mk s i→i+l.length≤1000→Mk (zlm l s) (i+l.length)
 |[],_,_,h,_=>h
 |a::l,s,i,h,hi=>by
  simp only[List.length_cons]at hi⊢
  have:=zqw (l:=l) (zqv h (by omega) a) (by omega)
  rwa[show i+1+l.length=i+(l.length+1) by omega]at this
abbrev zox (acts:List Act):St:=zlm (acts.take 60) st0
theorem znI (acts:List Act):Mk (zox acts) 60:=by
 have h:=zqw (l:=acts.take 60) (s:=st0) (i:=0) ⟨zeT,by decide,by decide⟩ (by simp;omega)
 have hl:(acts.take 60).length≤60:=by simp;omega
 exact⟨h.rt,by have:=h.num;show(zlm (acts.take 60) st0).num≤_;omega,by have:=h.tok;show(zlm (acts.take 60) st0).token≤_;omega⟩
set_option maxHeartbeats 4000000 in
theorem zuY (acts:List Act) (hl:acts.length<2^60) (ha:∀a∈acts,zmy a):CallOK Tryz.prog 25 [.f (al acts.length (zlo acts))] (fun r o=>r=[zu5 (zox acts)]∧o=[]):=by
 refine CallOK.nil ?_
 refine zac zas mixed (T:=Ty) (n:=44) Tryz.func25 (c:=Tryz.f25.body.getD .skip) rfl Tryz.results25 Tryz.ntmps25 Tryz.call25 ?_
 simp only[Tryz.f25,Option.getD]
 repeat'(first|refine zq0 ?_|exact zd0|(refine zaa ?_ ?_<;>intro hb)|(refine And.intro ?_ ?_;exact zI)|(refine And.intro ?_ ?_<;>intro hg)|exact zC|fail)
 refine zj3 (Gh.sealF 3 3 (.d (.v (.slice none 0 0))) ?_) ?_
 ·exact zo0
 refine zf0 ?_
 refine zj3 (Gh.sealF 3 4 (.d (.v (.slice none 0 0))) ?_) ?_
 ·exact zo0
 refine zf0 ?_
 refine zj3 (Gh.sealF 3 5 (.d (.v (.slice none 0 0))) ?_) ?_
 ·exact zo0
 refine zf0 ?_
 refine zam (τ:=Nat×St) (fun q=>⟨[al acts.length (zlo acts),dd, .one (.ptr ⟨2,0,1⟩ 0), .one (.ptr ⟨3,0,1⟩ 0),ai q.1,dd,dd,dd,dd,dd,dd,dd,dd,dd,dd,dd,dd,dd,dd,dd,dd,dd,dd,dd,dd,dd,dd,dd,dd,dd,dd,dd,dd,dd,dd,dd,dd,dd,dd,dd,dd,dd,dd,dd],[(2,{next:=2,l:=[some {e:=1,var:=true,fz:=false,sz:=0,cells:=[di 0,di 0,di 0, .d (.v (.slice none 0 0)), .d (.v (.slice none 0 0)), .d (.v (.slice none 0 0))]},none,none,none,none,none,none]}),(3,{next:=2,l:=[some {e:=1,var:=true,fz:=false,sz:=0,cells:=[di q.2.time,di q.2.num,di q.2.token, .d (.sl q.2.sess.length (zaJ q.2.sess)), .d (.sl q.2.locks.length (zai q.2.locks)), .d (.sl q.2.memos.length (zaC q.2.memos))]},none,none,none,none,none,none]}),(5,⟨2,[]⟩),(6,⟨2,[]⟩),(29,⟨2,[]⟩),(38,⟨2,[]⟩)]⟩)
  (fun q=>q.1≤acts.length∧q.1≤60∧Mk q.2 q.1) (fun q=>zlm ((acts.take 60).drop q.1) q.2) (fun q=>acts.length - q.1) (0,st0)
  (Gh.canon [2,3] [5,6,29,38] [] zK rfl rfl) ⟨Nat.zero_le _,by decide,zeT,by decide,by decide⟩ ?_
 intro⟨i,s⟩ ⟨j1,j2,j3⟩ hF K hK
 simp only[List.drop_zero]at j1 j2 j3 hF hK⊢
 have hH:zbB=2305843009213693952:=rfl
 refine zw ?_
 refine zaa (fun hlt=> ?_) (fun hge=> ?_)
 ·have hlt2:i<acts.length∧i<60:=by simp at hlt;omega
  have hi:=hlt2.1
  have hat:=zu1 hi
  have hw:=zaq hi (by omega)
  have hao:=ha _ (List.getElem_mem hi)
  have hwt:=zcG hao.1
  have htm:=zdd hao.1.1 16
  have hrt:=j3.rt.time
  have hnu:=j3.num
  have htk:=j3.tok
  have hwa:IntKind.i64.wrap (s.time+acts[i].time % 16)=s.time+acts[i].time % 16:=wrap64 (by omega) (by omega)
  have had:=zmJ s (zb1 j3.rt) j3.rt (s.time+acts[i].time % 16) 60
  obtain⟨r1,r2,r3,r4,r5⟩:=zgl j3.rt (s.time+acts[i].time % 16) 60 (by omega)
  have hmk:=zqv j3 (by omega) acts[i]
  have hds:(acts.take 60).drop i=acts[i]::(acts.take 60).drop (i+1):=by
   rw[List.drop_eq_getElem_cons (by simp;omega),List.getElem_take]
  have hst:zsI s acts[i]=(zd9 (zci s (s.time+acts[i].time % 16) 60) (zrM (zci s (s.time+acts[i].time % 16) 60) acts[i])).1:=rfl
  generalize zci s (s.time+acts[i].time % 16) 60=t at*
  have hrq:=zoz t (zb1 r1) r1 acts[i] hao
  have hro:=zuX r1 hao
  generalize zrM t acts[i]=q at*
  have hap:=zq6 t (zb1 r1) r1 q hro (fun hm=>zmz r1 hm (by omega) (by omega)) (fun hm=>zoB r1 hm (by omega) (by omega))
  generalize zd9 t q=U at*
  repeat'(first|refine zq (I hat (I hwt (I htm (I hwa (I @znJ zca))))) ?_|exact zd (I hat (I hwt (I htm (I hwa (I @znJ zca)))))|refine zc (had) ?_|refine zg (had) ?_|refine zc (hrq) ?_|refine zg (hrq) ?_|refine zc (hap) ?_|refine zg (hap) ?_|(refine zaa ?_ ?_<;>intro hb)|(refine And.intro ?_ ?_;exact zI)|(refine And.intro ?_ ?_<;>intro hg)|exact zC|fail)
  refine hK _ (i+1,U.1) (Gh.canon [2,3] [] [] (zk hw) rfl rfl) ⟨hi,by simp only;omega,by rw[←hst];exact hmk⟩ ?_ (by simp only;omega)
  simp only
  rw[hds,zlm,hst]
 ·have hd:(acts.take 60).drop i=[]:=List.drop_eq_nil_of_le (by simp at hge⊢;omega)
  rw[hd,zlm]at hF
  rw[show zox acts=s from hF.symm]
  repeat'(first|refine zq0 ?_|exact zd0|(refine zaa ?_ ?_<;>intro hb)|(refine And.intro ?_ ?_;exact zI)|(refine And.intro ?_ ?_<;>intro hg)|exact zC|fail)
  simp[zbO,zfo,zbH,zaz]
abbrev zaf (l:List Int):List D:=l.map uD
def zi7 (v:Int) (k:Nat):Int:=IntKind.u8.wrap (v.fdiv (2^(8*(7 - k))))
def zbV (v:Int):List Int:=(List.range 8).map (zi7 v)
abbrev zv1 (v:Int) (i:Nat):List D:=(List.range 8).map fun k=>uD (if k<i then zi7 v k else 0)
theorem zhc {v:Int} (h0:0≤v) (h1:v≤255):IntKind.u8.wrap v=v:=by
 have e:IntKind.u8.wrap v=v % 256:=by
  unfold IntKind.wrap
  simp[IntKind.bits,IntKind.signed]
 rw[e]
 omega
theorem zsG (v:Int) (i:Nat) (hi:i<8):(zv1 v i).set i (uD (zi7 v i))=zv1 v (i+1):=by
 apply List.ext_getElem
 ·simp
 ·intro k h1 h2
  simp only[List.length_set,List.length_map,List.length_range]at h1
  rw[List.getElem_set]
  simp only[List.getElem_map,List.getElem_range]
  split
  ·rename_i e;subst e;rw[if_pos (by omega)]
  ·rename_i e
   by_cases h:k<i
   ·rw[if_pos h,if_pos (by omega)]
   ·rw[if_neg h,if_neg (by omega)]
theorem zge (v:Int) (h:0≤v∧v<4611686018427387904):CallOK Tryz.prog 70 [.f (ai v)] (fun r o=>r=[.one (.own 1 8 (zaf (zbV v)) false),ri 0]∧o=[]):=by
 refine zac zas mixed (T:=Ty) (n:=29) Tryz.func70 (c:=Tryz.f70.body.getD .skip) rfl Tryz.results70 Tryz.ntmps70 Tryz.call70 ?_
 simp only[Tryz.f70,Option.getD]
 have h1:decide (v<0)=false:=by simp;omega
 have h2:decide (v≥4611686018427387904)=false:=by simp;omega
 repeat'(first|refine zq (I h1 h2) ?_|exact zd (I h1 h2)|(refine zaa ?_ ?_<;>intro hb)|(refine And.intro ?_ ?_;exact zI)|(refine And.intro ?_ ?_<;>intro hg)|exact zC|fail)
 refine zam (τ:=Nat) (fun i=>⟨[ai v,dd,dd,dd, .one (.own ⟨4,1,1⟩ 0 8),dd,dd,dd,dd,dd,dd,dd,dd,dd,ai 8,ai i,dd,dd,dd,dd,dd,dd,dd,dd,dd,dd,dd,dd,dd],[(12,⟨2,[]⟩),(4,{next:=2,l:=[none,some {e:=1,var:=false,fz:=false,sz:=1,cells:=(zv1 v i).map C.d}]})]⟩)
  (fun i=>i≤8) (fun _=>()) (fun i=>8 - i) 0
  (Gh.canon [4] [] [] zK rfl rfl) (Nat.zero_le _) ?_
 intro i hi0 hF K hK
 refine zw ?_
 refine zaa (fun hlt=> ?_) (fun hge=> ?_)
 ·have hi:i<8:=by simp at hlt;omega
  have w1:IntKind.i64.wrap (7 - (i:Int))=7 - i:=wrap64 (by omega) (by omega)
  have w2:IntKind.i64.wrap (8*(7 - (i:Int)))=((8*(7 - i):Nat):Int):=by rw[wrap64 (by omega) (by omega)];omega
  have w3:¬(((8*(7 - i):Nat):Int)<0):=by omega
  have w4:min (8*(7 - i)) IntKind.i64.bits=8*(7 - i):=by have:IntKind.i64.bits=64:=rfl;omega
  have hw:IntKind.i64.wrap ((i:Int)+1)=((i+1:Nat):Int):=by rw[wrap64 (by omega) (by omega)];omega
  have hset:((zv1 v i).map C.d).set i (C.d (D.v (Value.int IntKind.u8 (IntKind.u8.wrap (v.fdiv (2^(8*(7 - i))))))))=(zv1 v (i+1)).map C.d:=by
   have:=zsG v i hi
   rw[←this,List.map_set];rfl
  have hle:(i+1≤8)=True:=eq_true (by omega)
  repeat'(first|(with_reducible first|refine zad _ _ ?_|refine zaS ?_|refine zaT ?_)|rw[zaI]|simp only[w1,w2,if_neg w3,Int.toNat_natCast,w4,hset,List.length_range,hle,zY,Int.reduceEq,Int.reduceBEq,Int.reduceBNe,Nat.reduceSub,Nat.reduceEqDiff,Nat.reduceAdd,Nat.reduceMul,Nat.reduceLeDiff,Nat.reduceLT,Nat.reduceBEq,reduceCtorEq]|refine zax ?_|refine zaa (fun hb=> ?_) (fun hb=> ?_)|(refine And.intro ?_ ?_;exact zI)|refine And.intro (fun hg=> ?_) (fun hg=> ?_)|exact zC|fail)
  exact hK _ (i+1) (Gh.canon [4] [] [] (zk hw) rfl rfl) hi rfl (by omega)
 ·have hi:i=8:=by
   have:¬(i:Int)<8:=by simpa using hge
   omega
  subst hi
  repeat'(first|refine zq0 ?_|exact zd0|(refine zaa ?_ ?_<;>intro hb)|(refine And.intro ?_ ?_;exact zI)|(refine And.intro ?_ ?_<;>intro hg)|exact zC|fail)
  rfl
theorem zgf (s:ByteArray):s.data.toList.length=s.size:=by rw[Array.length_toList];rfl
abbrev zv2 (s:ByteArray):List D:=s.data.toList.map fun b=>uD b.toNat
def zhd (s:ByteArray):List D:=uD s.size::zv2 s
theorem zeS (s:ByteArray):(zhd s).length=1+s.size:=by simp[zhd,zgf,Nat.add_comm]
theorem zi8 (s:ByteArray) (h:s.size≤255):CallOK Tryz.prog 33 [.f (ast s)] (fun r o=>r=[.one (.own 1 (1+s.size) (zhd s) false),ri 0]∧o=[]):=by
 refine zac zas mixed (T:=Ty) (n:=13) Tryz.func33 (c:=Tryz.f33.body.getD .skip) rfl Tryz.results33 Tryz.ntmps33 Tryz.call33 ?_
 simp only[Tryz.f33,Option.getD]
 have h1:decide ((s.size:Int)>255)=false:=by simp;omega
 have hw:IntKind.u8.wrap (s.size:Int)=s.size:=zhc (by omega) (by omega)
 have hle:(1+s.size≤2^47)=True:=eq_true (by omega)
 repeat'(first|refine zq (I h1 (I hw (I @zgf hle))) ?_|exact zd (I h1 (I hw (I @zgf hle)))|(refine zaa ?_ ?_<;>intro hb)|(refine And.intro ?_ ?_;exact zI)|(refine And.intro ?_ ?_<;>intro hg)|exact zC|fail)
 rfl
theorem zuV (n:Nat) (h:n<2^40):CallOK Tryz.prog 69 [.f (.one (.d (.v (.slice none 0 0)))), .f (ai n)] (fun r o=>r=[.one (.own 1 0 (zdN [.int .u8 0] n) false)]∧o=[]):=by
 refine ziM zas mixed (T:=Ty) (n:=27) Tryz.func69 (c:=Tryz.f69.body.getD .skip) rfl Tryz.results69 Tryz.ntmps69 Tryz.call69
  (fun _=>⟨(openG 27 [.f (.one (.d (.v (.slice none 0 0)))), .f (ai n)]).v.set 0 (.one (.gap ⟨0,1,0⟩ 0 0 0)),[(0,⟨1,[none,some {e:=0,var:=false,fz:=false,sz:=1,cells:=[]}]⟩)]⟩)
  (fun _=>True) (fun cx a w hh=>⟨0,trivial,Gh.nilG (i:=0) (s:=0) (sz:=1) rfl cx a w hh⟩) ?_
 intro k _
 simp only[Tryz.f69,Option.getD]
 have h1:decide ((n:Int)<0)=false:=by simp
 have hw:IntKind.i64.wrap ((n:Int) - IntKind.i64.wrap (((0:Nat):Int) - ((0:Nat):Int)))=n:=by
  rw[show IntKind.i64.wrap (((0:Nat):Int) - ((0:Nat):Int))=0 from by decide,Int.sub_zero,wrap64 (by omega) (by omega)]
 cases h2:decide ((n:Int)>0)
 ·have:n=0:=by simp at h2;omega
  subst this
  repeat'(first|refine zq (I h1 (I hw h2)) ?_|exact zd (I h1 (I hw h2))|(refine zaa ?_ ?_<;>intro hb)|(refine And.intro ?_ ?_;exact zI)|(refine And.intro ?_ ?_<;>intro hg)|exact zC|fail)
  rfl
 ·have h3:0<n:=by simp at h2;omega
  have hc1:(0≤(n:Int)∧(n:Int)<2^62∧0<n∧n≤2^47)=True:=eq_true (by omega)
  repeat'(first|refine zq (I h1 (I hw (I h2 (I hc1 @Int.toNat_natCast)))) ?_|exact zd (I h1 (I hw (I h2 (I hc1 @Int.toNat_natCast))))|(refine zaa ?_ ?_<;>intro hb)|(refine And.intro ?_ ?_;exact zI)|(refine And.intro ?_ ?_<;>intro hg)|exact zC|fail)
def zuW (ls:List (List D)) (i:Nat):List D:=if i=0 then zdN [.int .u8 0] ls.flatten.length else(ls.take i).flatten
theorem zll (ls:List (List D)) (i:Nat):(zuW ls i).take (ls.take i).flatten.length=(ls.take i).flatten:=by
 unfold zuW
 split
 ·rename_i h;subst h;simp
 ·rw[List.take_length]
theorem zgg {ls:List (List D)} {i:Nat} (hi:i<ls.length):(ls.take (i+1)).flatten=(ls.take i).flatten++ls[i]:=by
 rw[List.take_succ_eq_append_getElem hi,List.flatten_append];simp
theorem zmw {ls:List (List D)} {m:Nat} (hs:∀l∈ls,l.length≤m):∀i,(ls.take i).flatten.length≤i*m
 |0=>by simp
 |i+1=>by
  by_cases hi:i<ls.length
  ·rw[zgg hi,List.length_append]
   have:=zmw hs i
   have:=hs _ (List.getElem_mem hi)
   rw[Nat.add_mul];omega
  ·have h1:ls.take (i+1)=ls:=List.take_of_length_le (by omega)
   have h2:ls.take i=ls:=List.take_of_length_le (by omega)
   rw[h1,←h2]
   have:=zmw hs i
   rw[Nat.add_mul];omega
theorem zqu {ls:List (List D)} {i:Nat} (hi:i<ls.length):zuW ls (i+1)=(ls.take i).flatten++ls[i]:=by
 unfold zuW
 rw[if_neg (by omega),zgg hi]
theorem zsH (ls:List (List D)):zuW ls ls.length=ls.flatten:=by
 unfold zuW
 cases ls with
 |nil=>rfl
 |cons a l=>rw[if_neg (by simp),List.take_length]
abbrev zrL (ls:List (List D)):List D:=ls.map fun l=> .sl l.length l
theorem zt5 {ls:List (List D)} {i:Nat} (hi:i<ls.length):(zrL ls).drop i= .sl ls[i].length ls[i]::zrL (ls.drop (i+1)):=by
 rw[←List.map_drop,List.drop_eq_getElem_cons hi];rfl
theorem zj2 {ls:List (List D)}:(zrL ls).length=ls.length:=by simp
theorem zhX (ls:List (List D)) (hl:ls.length<2^10) (hs:∀l∈ls,l.length≤2^12):
  CallOK Tryz.prog 30 [.f (al ls.length (zrL ls))] (fun r o=>r=[.one (.own 1 ls.flatten.length ls.flatten false)]∧o=[]):=by
 refine zac zas mixed (T:=Ty) (n:=36) Tryz.func30 (c:=Tryz.f30.body.getD .skip) rfl Tryz.results30 Tryz.ntmps30 Tryz.call30 ?_
 simp only[Tryz.f30,Option.getD]
 have hfl:=zmw hs
 repeat'(first|refine zq0 ?_|exact zd0|(refine zaa ?_ ?_<;>intro hb)|(refine And.intro ?_ ?_;exact zI)|(refine And.intro ?_ ?_<;>intro hg)|exact zC|fail)
 refine zam (τ:=Nat) (fun i=>⟨[al ls.length (zrL ls),dd,dd,ai (ls.take i).flatten.length,dd,dd,dd,dd,dd,al ls.length (zrL ls),ai ls.length,ai i,dd,dd,dd,dd,dd,dd,dd,dd,dd,dd,dd,dd,dd,dd,dd,dd,dd,dd,dd,dd,dd,dd,dd,dd],[(5,⟨2,[]⟩)]⟩)
  (fun i=>i≤ls.length) (fun _=>()) (fun i=>ls.length - i) 0
  (Gh.canon [] [5] [] (zk (I @List.take_zero.{0} (I @List.flatten_nil.{0} @List.length_nil.{0}))) rfl rfl) (Nat.zero_le _) ?_
 intro i hi0 hF K hK
 refine zw ?_
 refine zaa (fun hlt=> ?_) (fun hge=> ?_)
 ·have hi:i<ls.length:=by simpa using hlt
  have hat:=zt5 hi
  have hw:=zaq hi (by omega)
  have hb:=hfl i
  have hb2:=hfl (i+1)
  have hil:i*2^12≤2^10*2^12:=Nat.mul_le_mul_right _ (by omega)
  have hil2:(i+1)*2^12≤2^10*2^12:=Nat.mul_le_mul_right _ (by omega)
  have hfs:(ls.take (i+1)).flatten.length=(ls.take i).flatten.length+ls[i].length:=by rw[zgg hi,List.length_append]
  have hws:IntKind.i64.wrap (((ls.take i).flatten.length:Int)+(ls[i].length:Int))=((ls.take (i+1)).flatten.length:Int):=by rw[wrap64 (by omega) (by omega),hfs];omega
  have hn:decide (((ls.take (i+1)).flatten.length:Int)<0)=false:=by simp
  repeat'(first|refine zq (I hat (I hws (I hn @zj2))) ?_|exact zd (I hat (I hws (I hn @zj2)))|(refine zaa ?_ ?_<;>intro hb)|(refine And.intro ?_ ?_;exact zI)|(refine And.intro ?_ ?_<;>intro hg)|exact zC|fail)
  exact hK _ (i+1) (Gh.canon [] [] [] (zk hw) rfl rfl) hi rfl (by omega)
 ·have hi:i=ls.length:=by
   have:¬(i:Int)<ls.length:=by simpa using hge
   omega
  subst hi
  have hb:=hfl ls.length
  have hil:ls.length*2^12≤2^10*2^12:=Nat.mul_le_mul_right _ (by omega)
  rw[List.take_length]at*
  have hgr:=zuV ls.flatten.length (by omega)
  clear hK
  repeat'(first|refine zq0 ?_|exact zd0|refine zc (hgr) ?_|refine zg (hgr) ?_|(refine zaa ?_ ?_<;>intro hb)|(refine And.intro ?_ ?_;exact zI)|(refine And.intro ?_ ?_<;>intro hg)|exact zC|fail)
  refine zam (τ:=Nat) (fun i=>⟨[dd,dd,dd,dd,dd,dd, .one (.own ⟨6,1,1⟩ 0 (ls.take i).flatten.length),dd,dd,dd,dd,dd,dd,dd,dd,dd,dd,dd,dd,dd,dd,dd,dd,dd,dd,al ls.length (zrL ls),ai ls.length,ai i,dd,dd,dd,dd,dd,dd,dd,dd],[(5,⟨2,[]⟩),(24,⟨2,[]⟩),(6,{next:=2,l:=[none,some {e:=1,var:=false,fz:=false,sz:=1,cells:=(zuW ls i).map C.d}]}),(8,⟨2,[]⟩),(33,⟨2,[]⟩)]⟩)
   (fun i=>i≤ls.length) (fun _=>()) (fun i=>ls.length - i) 0
   (Gh.canon [6] [8,33] [] (zk (I @List.take_zero.{0} (I @List.flatten_nil.{0} @List.length_nil.{0}))) rfl rfl) (Nat.zero_le _) ?_
  intro i hi0 hF K hK
  refine zw ?_
  refine zaa (fun hlt=> ?_) (fun hge=> ?_)
  ·have hi:i<ls.length:=by simpa using hlt
   have hat:=zt5 hi
   have hw:=zaq hi (by omega)
   have hb:=hfl i
   have hb2:=hfl (i+1)
   have hil:i*2^12≤2^10*2^12:=Nat.mul_le_mul_right _ (by omega)
   have hil2:(i+1)*2^12≤2^10*2^12:=Nat.mul_le_mul_right _ (by omega)
   have hfs:(ls.take (i+1)).flatten.length=(ls.take i).flatten.length+ls[i].length:=by rw[zgg hi,List.length_append]
   have hle:((ls.take i).flatten.length+ls[i].length≤2^47)=True:=eq_true (by omega)
   repeat'(first|refine zq (I hat (I @zj2 (I @zwI (I @zll (I hle @zbb))))) ?_|exact zd (I hat (I @zj2 (I @zwI (I @zll (I hle @zbb)))))|(refine zaa ?_ ?_<;>intro hb)|(refine And.intro ?_ ?_;exact zI)|(refine And.intro ?_ ?_<;>intro hg)|exact zC|fail)
   exact hK _ (i+1) (Gh.canon [6] [] [] (zk (I hw hfs)) rfl (by rw[zqu hi];rfl)) hi rfl (by omega)
  ·have hi:i=ls.length:=by
    have:¬(i:Int)<ls.length:=by simpa using hge
    omega
   subst hi
   repeat'(first|refine zq0 ?_|exact zd0|(refine zaa ?_ ?_<;>intro hb)|(refine And.intro ?_ ?_;exact zI)|(refine And.intro ?_ ?_<;>intro hg)|exact zC|fail)
   rw[List.take_length,zsH]
theorem zee (n:Int):(zaf (zbV n)).length=8:=rfl
theorem zhY {l:List Int} {i:Nat} (hi:i<l.length):(zaf l).drop i=uD (l.getD i 0)::zaf (l.drop (i+1)):=by
 rw[←List.map_drop,List.drop_eq_getElem_cons hi,List.getD_eq_getElem?_getD,List.getElem?_eq_getElem hi];rfl
theorem za5 {l:List Int}:(zaf l).length=l.length:=by simp
def codeOf:Value→Value
 | .iface _ (.agg ⟨[c]⟩)=>c
 |_=>undef
abbrev zeX (t:Nat) (n:Int):Value:= .iface t (.agg #[.int .i64 n])
def zir (t:Nat) (x:Value):Prop:=∃n,x=zeX t n
def nw3 (z:Value) (x:Value) (k:Nat):List Value:=if k=4 then [z]else if k=5 then [.int .i64 0]else [codeOf x]
def nwT (x:Value) (k:Nat):List Value:=if k=6 then [.string .empty]else if k=7 then [.int .i64 0]else [codeOf x]
def sz3 (_:Nat):Nat:=1
theorem zvo {l:List Value} (h:l.length=1):∃a,l=[a]:=by
 match l,h with
 |[a],_=>exact⟨a,rfl⟩
theorem cells3 {ks:List Nat} {ls:List (List Value)} (hk:ks.length=3) (h:ls.length=ks.length) (hs:∀(i k:Nat) (l:List Value),ks[i]? =some k→ls[i]? =some l→l.length=sz3 k):∃a b c,ls=[[a],[b],[c]]:=by
 rw[hk]at h
 match ls,h with
 |[x,y,z],_=>
  obtain⟨a,rfl⟩:=zvo (hs 0 ks[0] x (List.getElem?_eq_getElem (by omega)) rfl)
  obtain⟨b,rfl⟩:=zvo (hs 1 ks[1] y (List.getElem?_eq_getElem (by omega)) rfl)
  obtain⟨c,rfl⟩:=zvo (hs 2 ks[2] z (List.getElem?_eq_getElem (by omega)) rfl)
  exact⟨a,b,c,rfl⟩
theorem zis {P:Program} {t:Nat} {z:Value} (h:(P.info? t).bind (·.zero)=some z) (w:World):(zeroValue t).run P w= .ok z w:=by
 cases hi:P.info? t with
 |none=>rw[hi]at h;cases h
 |some i=>rw[hi]at h;simp[zeroValue,typeInfo,hi,show i.zero=some z from h]
theorem zgT:(Tryz.prog.info? 170).bind (·.zero)=some (.agg #[.int .i64 0]):=by kernel_rfl
theorem zit:zhH Tryz.prog 175 [4,5,6] sz3 (nw3 (.int .i64 0)) (zir 170):=by
 refine zew zas mixed (T:=Ty) Tryz.func175 rfl rfl Tryz.ntmps175 rfl rfl rfl rfl rfl rfl rfl (by decide) (by decide) (by decide) ?_
 rintro x ⟨n,rfl⟩ ls hl hs
 obtain⟨a,b,c,rfl⟩:=cells3 rfl hl hs
 refine⟨.tuple #[.agg #[.int .i64 n], .bool true], .tup [.agg [di n],ab true], ?_, ?_,rfl, ?_⟩
 ·intro w
  simp[Instr.typeAssert,Tryz.underlying170]
 ·intro cx w r β
  simp[ReA,ReAs,ReC,ReCs,Rd,flat]
 ·simp only[zbg,plainO,List.map_cons,List.map_nil]
  first|refine zs0 ?_|exact zt0
  repeat'(first|refine zq0 ?_|exact zd0|(refine zaa ?_ ?_<;>intro hb)|(refine And.intro ?_ ?_;exact zI)|(refine And.intro ?_ ?_<;>intro hg)|exact zC|fail)
  rfl
theorem zjr:zmk Tryz.prog 175 3:=by
 refine zds zas mixed (T:=Ty) Tryz.func175 rfl rfl Tryz.ntmps175 rfl rfl rfl rfl rfl rfl rfl (by decide) (y7:= .tuple #[.agg #[.int .i64 0], .bool false]) (V7:= .tup [.agg [di 0],ab false]) ?_ ?_ (by decide) rfl ?_
 ·intro w
  simp[Instr.typeAssert,Tryz.underlying170,zis (zgT) w]
 ·intro cx w r β
  simp[ReA,ReAs,ReC,ReCs,Rd,flat]
 ·simp only[List.replicate]
  first|refine zs0 ?_|exact zt0
  repeat'(first|refine zq0 ?_|exact zd0|(refine zaa ?_ ?_<;>intro hb)|(refine And.intro ?_ ?_;exact zI)|(refine And.intro ?_ ?_<;>intro hg)|exact zC|fail)
theorem zjs:zhH Tryz.prog 141 [4,5,6] sz3 (nw3 (.int .i64 0)) (zir 170):=by
 refine zew zas mixed (T:=Ty) Tryz.func141 rfl rfl Tryz.ntmps141 rfl rfl rfl rfl rfl rfl rfl (by decide) (by decide) (by decide) ?_
 rintro x ⟨n,rfl⟩ ls hl hs
 obtain⟨a,b,c,rfl⟩:=cells3 rfl hl hs
 refine⟨.tuple #[.agg #[.int .i64 n], .bool true], .tup [.agg [di n],ab true], ?_, ?_,rfl, ?_⟩
 ·intro w
  simp[Instr.typeAssert,Tryz.underlying170]
 ·intro cx w r β
  simp[ReA,ReAs,ReC,ReCs,Rd,flat]
 ·simp only[zbg,plainO,List.map_cons,List.map_nil]
  first|refine zs0 ?_|exact zt0
  repeat'(first|refine zq0 ?_|exact zd0|(refine zaa ?_ ?_<;>intro hb)|(refine And.intro ?_ ?_;exact zI)|(refine And.intro ?_ ?_<;>intro hg)|exact zC|fail)
  rfl
theorem zlU:zmk Tryz.prog 141 3:=by
 refine zds zas mixed (T:=Ty) Tryz.func141 rfl rfl Tryz.ntmps141 rfl rfl rfl rfl rfl rfl rfl (by decide) (y7:= .tuple #[.agg #[.int .i64 0], .bool false]) (V7:= .tup [.agg [di 0],ab false]) ?_ ?_ (by decide) rfl ?_
 ·intro w
  simp[Instr.typeAssert,Tryz.underlying170,zis (zgT) w]
 ·intro cx w r β
  simp[ReA,ReAs,ReC,ReCs,Rd,flat]
 ·simp only[List.replicate]
  first|refine zs0 ?_|exact zt0
  repeat'(first|refine zq0 ?_|exact zd0|(refine zaa ?_ ?_<;>intro hb)|(refine And.intro ?_ ?_;exact zI)|(refine And.intro ?_ ?_<;>intro hg)|exact zC|fail)
theorem zeo:zhH Tryz.prog 198 [6,7,8] sz3 (nwT) (zir 170):=by
 refine zew zas mixed (T:=Ty) Tryz.func198 rfl rfl Tryz.ntmps198 rfl rfl rfl rfl rfl rfl rfl (by decide) (by decide) (by decide) ?_
 rintro x ⟨n,rfl⟩ ls hl hs
 obtain⟨a,b,c,rfl⟩:=cells3 rfl hl hs
 refine⟨.tuple #[.agg #[.int .i64 n], .bool true], .tup [.agg [di n],ab true], ?_, ?_,rfl, ?_⟩
 ·intro w
  simp[Instr.typeAssert,Tryz.underlying170]
 ·intro cx w r β
  simp[ReA,ReAs,ReC,ReCs,Rd,flat]
 ·simp only[zbg,plainO,List.map_cons,List.map_nil]
  first|refine zs0 ?_|exact zt0
  repeat'(first|refine zq0 ?_|exact zd0|(refine zaa ?_ ?_<;>intro hb)|(refine And.intro ?_ ?_;exact zI)|(refine And.intro ?_ ?_<;>intro hg)|exact zC|fail)
  rfl
theorem zfm:zmk Tryz.prog 198 3:=by
 refine zds zas mixed (T:=Ty) Tryz.func198 rfl rfl Tryz.ntmps198 rfl rfl rfl rfl rfl rfl rfl (by decide) (y7:= .tuple #[.agg #[.int .i64 0], .bool false]) (V7:= .tup [.agg [di 0],ab false]) ?_ ?_ (by decide) rfl ?_
 ·intro w
  simp[Instr.typeAssert,Tryz.underlying170,zis (zgT) w]
 ·intro cx w r β
  simp[ReA,ReAs,ReC,ReCs,Rd,flat]
 ·simp only[List.replicate]
  first|refine zs0 ?_|exact zt0
  repeat'(first|refine zq0 ?_|exact zd0|(refine zaa ?_ ?_<;>intro hb)|(refine And.intro ?_ ?_;exact zI)|(refine And.intro ?_ ?_<;>intro hg)|exact zC|fail)
abbrev asl (n:Nat) (ds:List D):AV:= .one (.d (.sl n ds))
abbrev rdr (n:Nat) (ds:List D) (p:Int):List RO:=[.d (.sl n ds), .d (iD p)]
theorem zpa (n:Nat) (ds:List D) (p k:Nat) (hl:ds.length=n) (hn:n<2^62) (h:p+k≤n):
  CallOK Tryz.prog 142 [.obj (rdr n ds p), .f (ai k)] (fun r o=>r=[.one (.d (.sl k ((ds.drop p).take k)))]∧o=[rdr n ds ((p+k:Nat):Int)]):=by
 refine zac zas mixed (T:=Ty) (n:=63) Tryz.func142 (c:=Tryz.f142.body.getD .skip) rfl Tryz.results142 Tryz.ntmps142 Tryz.call142 ?_
 simp only[Tryz.f142,Option.getD]
 have h1:decide ((p:Int)<0)=false:=by simp
 have h2:decide ((p:Int)>(n:Int))=false:=by simp;omega
 have h3:IntKind.i64.wrap ((n:Int) - (p:Int))=(n:Int) - p:=wrap64 (by omega) (by omega)
 have h4:decide ((n:Int) - (p:Int)<(k:Int))=false:=by simp;omega
 have h5:IntKind.i64.wrap ((p:Int)+(k:Int))=((p+k:Nat):Int):=by rw[wrap64 (by omega) (by omega)];omega
 have h6:p+k - p=k:=by omega
 repeat'(first|refine zq (I h1 (I h2 (I h3 (I h4 (I h5 (I h6 (I @Int.toNat_natCast hl))))))) ?_|exact zd (I h1 (I h2 (I h3 (I h4 (I h5 (I h6 (I @Int.toNat_natCast hl)))))))|(refine zaa ?_ ?_<;>intro hb)|(refine And.intro ?_ ?_;exact zI)|(refine And.intro ?_ ?_<;>intro hg)|exact zC|fail)
def zbw (n:Nat) (p k:Int):Bool:=decide (p<0)||decide (p>(n:Int))||decide ((n:Int) - p<k)
theorem zhv (n:Nat) (ds:List D) (p k:Int) (hl:ds.length=n) (hn:n<2^62) (hp:i64 p) (h:zbw n p k=true):
  zcn Tryz.prog 142 [.obj (rdr n ds p), .f (ai k)] (zeX 170 2):=by
 refine zc0 zas mixed (T:=Ty) (n:=63) Tryz.func142 (c:=Tryz.f142.body.getD .skip) rfl Tryz.ntmps142 Tryz.call142 ?_
 simp only[Tryz.f142,Option.getD]
 unfold zbw at h
 cases h1:decide (p<0)
 ·cases h2:decide (p>(n:Int))
  ·have h4:decide ((n:Int) - p<k)=true:=by rw[h1,h2]at h;simpa using h
   have h3:IntKind.i64.wrap ((n:Int) - p)=(n:Int) - p:=by
    simp at h1 h2
    exact wrap64 (by omega) (by omega)
   repeat'(first|refine zq (I h1 (I h2 (I h3 (I h4 (I @zah hl))))) ?_|exact zd (I h1 (I h2 (I h3 (I h4 (I @zah hl)))))|(refine zaa ?_ ?_<;>intro hb)|(refine And.intro ?_ ?_;exact zI)|(refine And.intro ?_ ?_<;>intro hg)|exact zC|fail)
  ·repeat'(first|refine zq (I h1 (I h2 (I @zah hl))) ?_|exact zd (I h1 (I h2 (I @zah hl)))|(refine zaa ?_ ?_<;>intro hb)|(refine And.intro ?_ ?_;exact zI)|(refine And.intro ?_ ?_<;>intro hg)|exact zC|fail)
 ·repeat'(first|refine zq (I h1 (I @zah hl)) ?_|exact zd (I h1 (I @zah hl))|(refine zaa ?_ ?_<;>intro hb)|(refine And.intro ?_ ?_;exact zI)|(refine And.intro ?_ ?_<;>intro hg)|exact zC|fail)
end Go.Proofs.YtbpmcjeeeiffhaaGreat
