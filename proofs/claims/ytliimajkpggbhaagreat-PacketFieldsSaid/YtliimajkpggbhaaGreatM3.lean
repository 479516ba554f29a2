import Derived.Test.YtliimajkpggbhaaGreatK9
import Derived.Test.YtliimajkpggbhaaGreatPB
namespace Go.Proofs.YtliimajkpggbhaaGreat
open Go.Pk
set_option maxRecDepth 100000
set_option linter.unusedSimpArgs false
set_option linter.unusedVariables false
theorem zof (n:Int):CallOK Tryz.prog 116 [.f (ai n)] (fun r o=>r=[rb (bad n)]∧o=[]):=by
 refine zh Tryz.func116 Tryz.results116 Tryz.ntmps116 Tryz.call116 ?_
 simp only[Tryz.f116,Option.getD]
 refine zA9 trivial ?_
 rfl
theorem zjb (l:List Int) (hl:l.length<2^62):CallOK Tryz.prog 75 [.f (al l.length (zaQ l))] (fun r o=>r=[rb (!l.any bad)]∧o=[]):=by
 refine zh Tryz.func75 Tryz.results75 Tryz.ntmps75 Tryz.call75 ?_
 simp only[Tryz.f75,Option.getD]
 repeat'(first|exact zC|refine za0 ?_|((first|((try refine zaT ?_);apply za9)|(apply za7;intro _));(solve|exact(zeI l hl bad _ [] rfl rfl (fun x _=>zof x))|(refine CallOK.le (zeI l hl bad _ [] rfl rfl (fun x _=>zof x)) ?_;exact zM)|fail);try case hn=>rfl)|(apply zaa<;>intro hb)|(apply I;exact zI)|(apply I<;>intro hg))
theorem b1 {q a b:Bool} (hg:(q==false)=false):(q||a||b)=true:=by cases q<;>simp_all
theorem b2 {q a b c:Bool} (h:(q|| !!a||b)=c):(q||a||b)=c:=by simpa using h
theorem b3 {q b:Bool} (hg:(q==false)=false) (hb:(q||b)=false):False:=by cases q<;>simp_all
theorem zDW {x y:Int}:[x,y].any bad=(bad x||bad y):=by simp
def zcK (done:Int):Int→List Vote→Bool
 |_,[]=>true
 |last,v::rest=>if(decide (v.slot≤last)||decide (v.slot - done>9)||(bad v.slot||bad v.ballot)|| !Batch.may v.batch)=true then false else zcK done v.slot rest
def Prom.may (p:Prom):Bool:=
 if(decide (p.src<0)||decide (p.src≥7)||[p.done,p.tip.view,p.tip.slot,p.time].any bad||decide ((p.votes.length:Int)>9))=true then false else zcK p.done p.done p.votes
theorem zrM (p:Prom) (hok:p.ok):CallOK Tryz.prog 37 [.f (.agg p.lent)] (fun r o=>r=[rb (Prom.may p)]∧o=[]):=by
 have hlen:p.votes.length<2^42:=hok.2.2.2.2.2.1
 have hv:∀v∈p.votes,v.ok:=hok.2.2.2.2.2.2
 refine zh Tryz.func37 Tryz.results37 Tryz.ntmps37 Tryz.call37 ?_
 simp only[Tryz.f37,Option.getD]
 repeat'(first|exact zC|refine za0 ?_|((first|((try refine zaT ?_);apply za9)|(apply za7;intro _));(solve|exact(zjb [_,_,_,_] (by simp))|(refine CallOK.le (zjb [_,_,_,_] (by simp)) ?_;exact zM)|fail);try case hn=>rfl)|(apply zaa<;>intro hb)|(apply I;exact zI)|(apply I<;>intro hg))
 ·rw[Prom.may,if_pos (b2 hb)]
 rotate_left
 ·rw[Prom.may,if_pos (b1 hg)]
 ·exact(b3 hg hb).elim
 have hc:¬(decide (p.src<0)||decide (p.src≥7)||[p.done,p.tip.view,p.tip.slot,p.time].any bad||decide ((p.votes.length:Int)>9))=true:=by
  rw[b2 hb];simp
 have hdone:0≤p.done:=by
  simp[bad]at hc
  omega
 have hm:Prom.may p=zcK p.done p.done p.votes:=by rw[Prom.may,if_neg hc]
 rw[hm]
 refine zw ?_
 refine zai (τ:=Nat×Int×Nat×Nat) (fun t=>⟨(dd:: .one (.ptr ⟨1,0,0⟩ 0)::ab false::ai t.2.1::zAH (al p.votes.length (zbo p.votes)::ai p.votes.length::ai t.1::zAG [])),
  [(1,{next:=7,l:=[obq 0 [di p.src,di p.done,di p.tip.view,di p.tip.slot,di p.time, .lent p.votes.length (zbo p.votes)],none,none,none,none,none,none]}),(25,⟨1,[]⟩),(5,⟨t.2.2.1,[]⟩),(61,⟨t.2.2.2,[]⟩)]⟩)
  (fun t=>t.1≤p.votes.length∧p.done≤t.2.1) (fun t=>zcK p.done t.2.1 (p.votes.drop t.1)) (fun t=>p.votes.length - t.1) (0,p.done,0,0) (Gh.keep [1] [5,61] ?_ rfl) ⟨Nat.zero_le _,Int.le_refl _⟩ ?_
 ·simp only[ddE,zcU,zcV,zdQ,Int.natCast_zero]
 intro⟨i,last,e5,e61⟩ ⟨hi0,hl0⟩ hF K hK
 simp only at hi0 hl0 hF hK⊢
 refine zw ?_
 refine zaa (fun hlt=> ?_) (fun hge=> ?_)
 ·have hi:i<p.votes.length:=by simpa using hlt
  rw[List.drop_eq_getElem_cons hi,zcK]at hF
  have hat:=ziW hi
  simp only[List.cons_append,List.nil_append]at hat
  have hvo:=hv _ (List.getElem_mem hi)
  have hw:(decide (p.votes[i].slot≤last)||decide (IntKind.i64.wrap (p.votes[i].slot - p.done)>9))=(decide (p.votes[i].slot≤last)||decide (p.votes[i].slot - p.done>9)):=by
   by_cases h:p.votes[i].slot≤last
   ·simp[h]
   ·have:=hvo.1
    unfold i64 at this
    rw[wrap64 (by omega) (by omega)]
  repeat'(first|exact zC|refine za (I @zaN hat) ?_|((first|((try refine zaT ?_);apply za9)|(apply za7;intro _));(solve|exact(zjb [_,_] (by simp))|(refine CallOK.le (zjb [_,_] (by simp)) ?_;exact zM)|fail);try case hn=>rfl)|((first|((try refine zaT ?_);apply za9)|(apply za7;intro _));(solve|exact(zdz _ hvo.2.2)|(refine CallOK.le (zdz _ hvo.2.2) ?_;exact zM)|fail);try case hn=>rfl)|(apply zaa<;>intro hb)|(apply I;exact zI)|(apply I<;>intro hg))
  all_goals rw[hw]at hb hg
  ·rw[if_pos (by rw[←zDW];exact b2 hb),List.drop_zero]at hF
   rw[←hF]
  ·have hb':=b2 hb
   rw[zDW]at hb'
   rw[if_neg (by rw[hb'];simp)]at hF
   have hsl:last<p.votes[i].slot:=by
    simp only[Bool.or_eq_false_iff,decide_eq_false_iff_not]at hb'
    omega
   refine hK _ (i+1,p.votes[i].slot,_,_) (Gh.keep [1] [] ?_ rfl) ⟨hi,by simp only;omega⟩ (by simp only[List.drop_eq_getElem_cons hi,zcK];rw[if_neg (by rw[hb'];simp)]) (by simp only;omega)
   simp only[zal hi (by omega),ddE,zcU,zcV,zdQ]
  ·rw[if_pos (b1 hg),List.drop_zero]at hF
   rw[←hF]
  ·exact(b3 hg hb).elim
 ·have hi:i=p.votes.length:=by
   have:¬(i:Int)<p.votes.length:=by simpa using hge
   omega
  rw[hi,List.drop_length,List.drop_zero,zcK]at hF
  refine zw ?_
  rw[←hF]
def lastOf (p:Prom) (i:Nat):Int:=if i=0 then p.done else(p.votes[i - 1]?.map Vote.slot).getD 0
theorem bad_false {n:Int} (h:bad n=false):0≤n∧n≤2305843009213693952:=by
 simp[bad]at h
 omega
theorem zkl {done:Int}:∀{last:Int} {l:List Vote},done≤last→zcK done last l=true→∀v∈l,done<v.slot∧v.slot≤done+9∧bad v.slot=false∧bad v.ballot=false∧Batch.may v.batch=true
 |last,[],_,_,v,hv=>by cases hv
 |last,w::l,hd,h,v,hv=>by
  rw[zcK]at h
  split at h
  ·cases h
  ·rename_i hc
   simp only[Bool.or_eq_true,Bool.not_eq_true',not_or,decide_eq_true_eq,Bool.not_eq_true,Bool.not_eq_false]at hc
   obtain⟨⟨⟨h1,h2⟩,h3,h4⟩,h5⟩:=hc
   rcases List.mem_cons.1 hv with rfl|hv
   ·exact⟨by omega,by omega,h3,h4,h5⟩
   ·exact zkl (by omega) h v hv
structure MayP (p:Prom):Prop where
 src:0≤p.src∧p.src<7
 done:0≤p.done∧p.done≤2305843009213693952
 view:0≤p.tip.view∧p.tip.view≤2305843009213693952
 slot:0≤p.tip.slot∧p.tip.slot≤2305843009213693952
 time:0≤p.time∧p.time≤2305843009213693952
 len:p.votes.length≤9
 may:zcK p.done p.done p.votes=true
 votes:∀v∈p.votes,p.done<v.slot∧v.slot≤p.done+9∧bad v.slot=false∧bad v.ballot=false∧Batch.may v.batch=true
theorem zlJ {p:Prom} (h:Prom.may p=true):MayP p:=by
 unfold Prom.may at h
 split at h
 ·cases h
 ·rename_i hc
  simp only[List.any_cons,List.any_nil,Bool.or_false,Bool.or_eq_true,not_or,decide_eq_true_eq,Bool.not_eq_true]at hc
  obtain⟨⟨⟨h1,h2⟩,h3,h4,h5,h6⟩,h7⟩:=hc
  exact⟨by omega,bad_false h3,bad_false h4,bad_false h5,bad_false h6,by omega,h,zkl (Int.le_refl _) h⟩
def zrK:Batch:=⟨true,0,⟨0,0⟩,0,[]⟩
theorem ze9 {a b:RO} {l m:List RO}:zaR (a::l) (b::m)=(zax a b∧zaR l m):=rfl
theorem zf8:zaR [] []=True:=rfl
def u8 (n:Int):Prop:=0≤n∧n<256
abbrev ru (n:Int):AV:= .one (.d (.v (.int .u8 n)))
def nameOf (k:Nat):ByteArray:=
 match k with
 |0=>⟨#[97]⟩|1=>⟨#[98]⟩|2=>⟨#[99]⟩|3=>⟨#[100]⟩|4=>⟨#[107,101,121,45,49]⟩|_=>⟨#[116,104,101,45,108,97,115,116,45,111,110,101]⟩
theorem u8w {n:Int} (h:u8 n):IntKind.i64.wrap n=n:=wrap64 (by have:=h.1;omega) (by have:=h.2;omega)
theorem zoe (n:Int) (h:u8 n):CallOK Tryz.prog 157 [.f (ru n)] (fun r o=>r=[.one (.d (sD (nameOf (n.toNat % 6))))]∧o=[]):=by
 refine zh Tryz.func157 Tryz.results157 Tryz.ntmps157 Tryz.call157 ?_
 simp only[Tryz.f157,Option.getD]
 have hw:=u8w h
 have ht:n.tmod 6=((n.toNat % 6:Nat):Int):=by
  rw[Int.tmod_eq_emod_of_nonneg h.1]
  have:=h.1
  omega
 have hk:n.toNat % 6<6:=Nat.mod_lt _ (by decide)
 rw[show nameOf (n.toNat % 6)=nameOf (n.toNat % 6) from rfl]
 generalize n.toNat % 6=k at ht hk
 have hc:k=0∨k=1∨k=2∨k=3∨k=4∨k=5:=by omega
 rcases hc with rfl|rfl|rfl|rfl|rfl|rfl
 all_goals repeat'(first|with_reducible refine zae _ _ ?_|rw[zbK]|simp only[zB,hw,ht,Int.reduceEq,Nat.zero_mul,Nat.mul_one,Nat.one_mul,List.drop_zero,Int.toNat_natCast,List.drop_succ_cons,Nat.reduceSub,Nat.reduceEqDiff,Nat.reduceAdd,Nat.reduceMul,Nat.reduceLeDiff,Nat.reduceLT,Nat.reduceBEq,reduceCtorEq]|refine za8 ?_|refine zaa (fun hb=> ?_) (fun hb=> ?_)|(refine And.intro ?_ ?_;exact zI)|refine And.intro (fun hg=> ?_) (fun hg=> ?_)|exact zC|fail)
 all_goals rfl
theorem zdm {n:Int} {m:Nat} (h:u8 n) (hm:0<m):n.tmod m=((n.toNat % m:Nat):Int):=by
 rw[Int.tmod_eq_emod_of_nonneg h.1]
 have e:n=(n.toNat:Int):=by have:=h.1;omega
 rw[e,Int.toNat_natCast,Int.natCast_emod]
def zmL (a b c:Int):Int×Int×ByteArray:=
 let k:Int:=1+((a.toNat % 6:Nat):Int)
 (k,if k=1 then 0 else 1+((b.toNat % 7:Nat):Int),if k=3∨k=4∨k=5 then nameOf (c.toNat % 6)else .empty)
theorem zuD (a b c:Int) (ha:u8 a) (hb:u8 b) (hc:u8 c):CallOK Tryz.prog 108 [.f (ru a), .f (ru b), .f (ru c)]
  (fun r o=>r=[.agg [.d (iD (zmL a b c).1), .d (iD (zmL a b c).2.1), .d (sD (zmL a b c).2.2)]]∧o=[]):=by
 refine zh Tryz.func108 Tryz.results108 Tryz.ntmps108 Tryz.call108 ?_
 simp only[Tryz.f108,Option.getD]
 have hwa:=u8w ha
 have hwb:=u8w hb
 have e6:=zdm ha (m:=6) (by decide)
 have e7:=zdm hb (m:=7) (by decide)
 have l6:a.toNat % 6<6:=Nat.mod_lt _ (by decide)
 have l7:b.toNat % 7<7:=Nat.mod_lt _ (by decide)
 have hw1:IntKind.i64.wrap (1+((a.toNat % 6:Nat):Int))=1+((a.toNat % 6:Nat):Int):=wrap64 (by omega) (by omega)
 have hw2:IntKind.i64.wrap (1+((b.toNat % 7:Nat):Int))=1+((b.toNat % 7:Nat):Int):=wrap64 (by omega) (by omega)
 rw[show((6:Nat):Int)=6 from rfl]at e6
 rw[show((7:Nat):Int)=7 from rfl]at e7
 repeat'(first|with_reducible refine zae _ _ ?_|rw[zbK]|simp only[zB,hwa,hwb,e6,e7,hw1,hw2,Int.reduceEq,Nat.reduceSub,Nat.reduceEqDiff,Nat.reduceAdd,Nat.reduceMul,Nat.reduceLeDiff,Nat.reduceLT,Nat.reduceBEq,reduceCtorEq]|((first|((try refine zaT ?_);apply za9)|(apply za7;intro _));(solve|exact(zoe c hc)|(refine CallOK.le (zoe c hc) ?_;exact zM)|fail);try case hn=>rfl)|refine za8 ?_|refine zaa (fun hb=> ?_) (fun hb=> ?_)|(refine And.intro ?_ ?_;exact zI)|refine And.intro (fun hg=> ?_) (fun hg=> ?_)|exact zC|fail)
 all_goals simp only[beq_iff_eq,beq_eq_false_iff_ne,ne_eq]at*
 all_goals first
  |(exfalso;omega)
  |(simp only[zmL];(repeat' split)<;>first|rfl|(exfalso;omega))
def zom (c q a b d:Int):Req:=⟨((c.toNat % 8:Nat):Int),1+q,(zmL a b d).1,(zmL a b d).2.1,(zmL a b d).2.2⟩
theorem zpf (c q a b d:Int) (hc:u8 c) (hq:u8 q) (ha:u8 a) (hb:u8 b) (hd:u8 d):CallOK Tryz.prog 58 [.f (ru c), .f (ru q), .f (ru a), .f (ru b), .f (ru d)]
  (fun r o=>r=[.agg ((zom c q a b d).enc.map RO.d)]∧o=[]):=by
 refine zh Tryz.func58 Tryz.results58 Tryz.ntmps58 Tryz.call58 ?_
 simp only[Tryz.f58,Option.getD]
 have hwc:=u8w hc
 have hwq:=u8w hq
 have e8:=zdm hc (m:=8) (by decide)
 rw[show((8:Nat):Int)=8 from rfl]at e8
 have hw1:IntKind.i64.wrap (1+q)=1+q:=wrap64 (by have:=hq.1;omega) (by have:=hq.2;omega)
 repeat'(first|with_reducible refine zae _ _ ?_|rw[zbK]|simp only[zB,hwc,hwq,e8,hw1,Int.reduceEq,Nat.reduceSub,Nat.reduceEqDiff,Nat.reduceAdd,Nat.reduceMul,Nat.reduceLeDiff,Nat.reduceLT,Nat.reduceBEq,reduceCtorEq]|((first|((try refine zaT ?_);apply za9)|(apply za7;intro _));(solve|exact(zuD a b d ha hb hd)|(refine CallOK.le (zuD a b d ha hb hd) ?_;exact zM)|fail);try case hn=>rfl)|refine za8 ?_|refine zaa (fun hb=> ?_) (fun hb=> ?_)|(refine And.intro ?_ ?_;exact zI)|refine And.intro (fun hg=> ?_) (fun hg=> ?_)|exact zC|fail)
 rfl
theorem bytes_at {l:List Int} {i:Nat} (hi:i<l.length):(zad l).drop i=uD l[i]::zad (l.drop (i+1)):=by
 rw[←List.map_drop,List.drop_eq_getElem_cons hi,List.map_cons]
def zgA (l:List Int) (acc:List Req):Nat→Nat→List Req
 |0,_=>acc
 |n+1,i=>if i+4<l.length∧acc.length<3 then
   let r:=zom (l.getD i 0) (l.getD (i+1) 0) (l.getD (i+2) 0) (l.getD (i+3) 0) (l.getD (i+4) 0)
   zgA l (if acc.any (fun o=>o.client==r.client)=true then acc else acc++[r]) n (i+5)else acc
abbrev zzh (b:Batch):RF:= .agg [.d (bD b.fill), .d (iD b.view), .d (iD b.tip.view), .d (iD b.tip.slot), .d (iD b.time), .own 5 b.reqs.length (zbS b.reqs) false]
def zbz (l:List Int):Batch:=
 if l.length<4∨l.getD 0 0=255 then zrK
 else⟨false,(((l.getD 2 0).toNat % 8:Nat):Int),⟨(((l.getD 0 0).toNat % 4:Nat):Int),(((l.getD 1 0).toNat % 6:Nat):Int)⟩,l.getD 3 0,zgA l [] l.length 4⟩
set_option maxHeartbeats 1000000 in
theorem zkk (l:List Int) (hl:l.length<2^60) (hu:∀x∈l,u8 x):CallOK Tryz.prog 61 [.f (al l.length (zad l))] (fun r o=>r=[zzh (zbz l)]∧o=[]):=by
 refine CallOK.nil ?_
 refine zh Tryz.func61 Tryz.results61 Tryz.ntmps61 Tryz.call61 ?_
 simp only[Tryz.f61,Option.getD]
 by_cases h4:l.length<4
 ·have hbad:Pk.bad=(⟨False, .one .dead,[]⟩:Out):=rfl
  cases l with
  |nil=>
   have hd:decide (((0:Nat):Int)<4)=true:=rfl
   repeat'(first|exact zC|refine zq (I hd (I @List.map_nil.{0,0} hbad)) ?_|(apply zaa<;>intro hb)|(apply I;exact zI)|(apply I<;>intro hg))
   simp[zaL,zcv,ze9,zf8,zax,zrK,zbz]
  |cons x l=>
  have hd:decide (((l.length+1:Nat):Int)<4)=true:=decide_eq_true (by simp only[List.length_cons]at h4;omega)
  refine zL0 (I hd @List.map_cons.{0,0}) ?_
  rw[show zbz (x::l)=zrK from if_pos (Or.inl h4)]
  simp[zaL,zcv,ze9,zf8,zax,zrK]
 obtain⟨x0,x1,x2,x3,l',rfl⟩:∃x0 x1 x2 x3 l',l=x0::x1::x2::x3::l':=by
  match l,h4 with
  |x0::x1::x2::x3::l',_=>exact⟨x0,x1,x2,x3,l',rfl⟩
  |[],h=>simp at h
  |[_],h=>simp at h
  |[_,_],h=>simp at h
  |[_,_,_],h=>simp at h
 have u0:=hu x0 (by simp)
 have u1:=hu x1 (by simp)
 have u2:=hu x2 (by simp)
 have u3:=hu x3 (by simp)
 have w0:=u8w u0
 have w1:=u8w u1
 have w2:=u8w u2
 have w3:=u8w u3
 have e4:x0.tmod 4=((x0.toNat % 4:Nat):Int):=zdm u0 (m:=4) (by decide)
 have e6:x1.tmod 6=((x1.toNat % 6:Nat):Int):=zdm u1 (m:=6) (by decide)
 have e8:x2.tmod 8=((x2.toNat % 8:Nat):Int):=zdm u2 (m:=8) (by decide)
 repeat'(first|with_reducible refine zae _ _ ?_|rw[zbK]|simp only[zB,Int.reduceEq,List.length_map,List.map_cons,Int.toNat_zero,Int.toNat_one,show Int.toNat 2=2 from rfl,show Int.toNat 3=3 from rfl,Nat.zero_mul,Nat.one_mul,Nat.mul_one,List.drop_zero,List.drop_succ_cons,w0,w1,w2,w3,e4,e6,e8,Nat.reduceSub,Nat.reduceEqDiff,Nat.reduceAdd,Nat.reduceMul,Nat.reduceLeDiff,Nat.reduceLT,Nat.reduceBEq,reduceCtorEq]|refine za8 ?_|refine zaa (fun hb=> ?_) (fun hb=> ?_)|(refine And.intro ?_ ?_;exact zI)|refine And.intro (fun hg=> ?_) (fun hg=> ?_)|exact zC|fail)
 ·have hf:zbz (x0::x1::x2::x3::l')=zrK:=by
   unfold zbz
   rw[if_pos]
   right
   simp at hb
   rcases hb with hb|hb
   ·omega
   ·exact hb
  rw[hf]
  simp[zaL,zcv,ze9,zf8,zax,zrK]
 obtain⟨l,hll⟩:∃l,l=x0::x1::x2::x3::l':=⟨_,rfl⟩
 have hE:uD x0::uD x1::uD x2::uD x3::List.map uD l'=zad l:=by rw[hll];rfl
 have hL:l'.length+1+1+1+1=l.length:=by rw[hll];rfl
 rw[hE,hL]
 -- state:the view,the tip,the time are those of the head
 have hbe:zbz (x0::x1::x2::x3::l')=⟨false,((x2.toNat % 8:Nat):Int),⟨((x0.toNat % 4:Nat):Int),((x1.toNat % 6:Nat):Int)⟩,x3,zgA l [] l.length 4⟩:=by
  unfold zbz
  rw[if_neg (by simp at hb;simp;omega),hll]
  rfl
 rw[hbe]
 have hl':l.length<2^60:=by rw[hll];exact hl
 have hu':∀x∈l,u8 x:=by rw[hll];exact hu
 have h4':4≤l.length:=by rw[hll];simp
 clear hbe hb hE hL hll h4 hl hu e4 e6 e8 w0 w1 w2 w3 u0 u1 u2 u3
 generalize ((x2.toNat % 8:Nat):Int)=V at*
 generalize ((x0.toNat % 4:Nat):Int)=TV at*
 generalize ((x1.toNat % 6:Nat):Int)=TS at*
 refine zai (τ:=Nat×Nat×List Req) (fun t=>⟨(al l.length (zad l)::dd::ptq 2::ptq 3::ai t.2.1::zr9 (zez (zez []))),
   [(2,⟨2,[obq 1 [db false,di 0,di 0,di 0,di 0, .d (.v (.slice none 0 0))],none,none,none,none,none,none]⟩),(3,⟨2,[obq 1 [db false,di V,di TV,di TS,di x3, .own ⟨3,6,1⟩ 0 t.2.2.length],none,none,none,none,none,roq 1 5 (zbS t.2.2)]⟩),(5,⟨2,[]⟩),(101,⟨2,[]⟩),(102,⟨2,[]⟩)]⟩)
  (fun t=>l.length≤t.2.1+t.1∧t.2.1≤l.length+9∧t.2.2.length≤3) (fun t=>zgA l t.2.2 t.1 t.2.1) (fun t=>t.1) (l.length,4,[])
  ((Gh.nilF 3 5 5 rfl).trans (Gh.canon [2,3] [5,101,102] [] zK rfl rfl)) ⟨by simp only;omega,by simp only;omega,Nat.zero_le _⟩ ?_
 intro⟨n,i,acc⟩ ⟨hn,hi9,ha3⟩ hF K hK
 simp only at hn hi9 ha3 hF hK⊢
 have hwi:IntKind.i64.wrap ((i:Int)+4)=((i+4:Nat):Int):=by rw[wrap64 (by omega) (by omega)];rfl
 have hw5:IntKind.i64.wrap ((i:Int)+5)=((i+5:Nat):Int):=by rw[wrap64 (by omega) (by omega)];rfl
 repeat'(first|exact zC|refine za hwi ?_|(apply zaa<;>intro hb)|(apply I;exact zI)|(apply I<;>intro hg))
 ·have hi:i+4<l.length:=by simp at hb;omega
  have ha2:acc.length<3:=by simp at hb;omega
  have g0:=bytes_at (show i<l.length by omega)
  have g1:=bytes_at (show i+1<l.length by omega)
  have g2:=bytes_at (show i+2<l.length by omega)
  have g3:=bytes_at (show i+3<l.length by omega)
  have g4:=bytes_at hi
  have k1:IntKind.i64.wrap ((i:Int)+1)=((i+1:Nat):Int):=by rw[wrap64 (by omega) (by omega)];rfl
  have k2:IntKind.i64.wrap ((i:Int)+2)=((i+2:Nat):Int):=by rw[wrap64 (by omega) (by omega)];rfl
  have k3:IntKind.i64.wrap ((i:Int)+3)=((i+3:Nat):Int):=by rw[wrap64 (by omega) (by omega)];rfl
  have um:∀k (h:k<l.length),u8 l[k]:=fun k h=>hu' _ (List.getElem_mem h)
  clear hb
  repeat'(first|exact zC|refine za (I hwi (I k1 (I k2 (I k3 (I g0 (I g1 (I g2 (I g3 (I g4 (I @Nat.mul_one @List.length_map.{0,0})))))))))) ?_|((first|((try refine zaT ?_);apply za9)|(apply za7;intro _));(solve|exact(zpf _ _ _ _ _ (um _ _) (um _ _) (um _ _) (um _ _) (um _ _))|(refine CallOK.le (zpf _ _ _ _ _ (um _ _) (um _ _) (um _ _) (um _ _) (um _ _)) ?_;exact zM)|fail);try case hn=>rfl)|(apply zaa<;>intro hb)|(apply I;exact zI)|(apply I<;>intro hg))
  obtain⟨r,hr⟩:∃r,r=zom l[i] l[i+1] l[i+2] l[i+3] l[i+4]:=⟨_,rfl⟩
  rw[←hr]
  have hf:zgA l acc n i=zgA l (if acc.any (fun o=>o.client==r.client)=true then acc else acc++[r]) (n - 1) (i+5):=by
   obtain⟨m,rfl⟩:∃m,n=m+1:=⟨n - 1,by omega⟩
   rw[zgA,if_pos ⟨hi,ha2⟩]
   simp only[List.getD_eq_getElem?_getD,List.getElem?_eq_getElem (show i<l.length by omega),List.getElem?_eq_getElem (show i+1<l.length by omega),List.getElem?_eq_getElem (show i+2<l.length by omega),
    List.getElem?_eq_getElem (show i+3<l.length by omega),List.getElem?_eq_getElem hi,Option.getD_some,←hr]
   rfl
  refine zai (τ:=Nat×Bool) (fun t=>⟨(al l.length (zad l)::dd::ptq 2::ptq 3::ai i::ptq 5::ab t.2::ai t.1::zxU (zez (zez []))),
    [(2,⟨2,[obq 1 [db false,di 0,di 0,di 0,di 0, .d (.v (.slice none 0 0))],none,none,none,none,none,none]⟩),(3,⟨2,[obq 1 [db false,di V,di TV,di TS,di x3, .own ⟨3,6,1⟩ 0 acc.length],none,none,none,none,none,roq 1 5 (zbS acc)]⟩),
     (5,⟨2,[obq 1 [.d (iD r.client), .d (iD r.seq), .d (iD r.kind), .d (iD r.session), .d (sD r.name)],none,none,none,none,none]⟩),(101,⟨2,[]⟩),(102,⟨2,[]⟩)]⟩)
   (fun t=>t.1≤acc.length) (fun t=>t.2||(acc.drop t.1).any (fun o=>o.client==r.client)) (fun t=>acc.length - t.1) (0,false)
   (Gh.canon [2,3,5] [] [] zK rfl rfl) (Nat.zero_le _) ?_
  intro⟨k,b⟩ hk0 hF2 K2 hK2
  simp only at hk0 hF2 hK2⊢
  refine zw ?_
  refine zaa (fun hlt=> ?_) (fun hge=> ?_)
  ·have hk:k<acc.length:=by simpa using hlt
   have hat:=zfC hk
   simp only[List.cons_append,List.nil_append]at hat
   refine zA9 (I hat (I @zaP (I @List.length_map.{0,0} (I @zbr (I @zde (I @Nat.zero_mul (I @List.drop_zero.{0} (I @zmd @List.map_cons.{0,0})))))))) ?_
   refine hK2 _ (k+1,(b||acc[k].client==r.client)) (Gh.canon [2,3,5] [] [] (by simp only[zal hk (by omega),ddE,zhe,zmV,zhf,zjl,zjm,zjn,List.set_cons_zero,List.set_cons_succ,and_true,true_and,Int.natCast_zero,Int.cast_ofNat_Int,D.v.injEq,Value.int.injEq];try(repeat'(first|rfl|omega|with_reducible apply And.intro))) rfl rfl) hk ?_ (by simp only;omega)
   rw[List.drop_eq_getElem_cons hk,List.any_cons,Bool.or_assoc]
  ·have hk:k=acc.length:=by
    have:¬(k:Int)<acc.length:=by simpa using hge
    omega
   rw[hk,List.drop_length,List.any_nil,List.drop_zero,Bool.or_false,Bool.false_or]at hF2
   rw[←hF2]at hf
   clear hF2 hK2
   have ht:(zbS acc).take (acc.length*5)=zbS acc:=List.take_of_length_le (by rw[zaP];omega)
   repeat'(first|exact zC|refine zq ht ?_|(apply zaa<;>intro hb)|(apply I;exact zI)|(apply I<;>intro hg))
   ·rw[if_neg (by simpa using hb)]at hf
    refine hK _ (n - 1,i+5,acc++[r]) (Gh.canon [2,3] [] [] (zk hw5) rfl (by simp only[List.length_append,List.length_singleton];rw[reqsE_snoc];rfl)) ⟨by simp only;omega,by simp only;omega,by simp only[List.length_append,List.length_singleton];omega⟩ hf.symm (by simp only;omega)
   ·rw[if_pos (by simpa using hb)]at hf
    refine hK _ (n - 1,i+5,acc) (Gh.canon [2,3] [] [] (zk hw5) rfl rfl) ⟨by simp only;omega,by simp only;omega,ha3⟩ hf.symm (by simp only;omega)
 ·have hf:zgA l acc n i=acc:=by
   cases n with
   |zero=>rfl
   |succ n=>rw[zgA,if_neg (by intro h;simp at hb;have:=hb (by omega);omega)]
  rw[hf]at hF
  rw[←hF]
  repeat'(first|exact zC|refine za (I @zbr (I @zde (I @Nat.zero_mul @List.drop_zero.{0}))) ?_|(apply zaa<;>intro hb)|(apply I;exact zI)|(apply I<;>intro hg))
  simp[zaL,zcv,ze9,zf8,zax]
structure NVote where
 slot:Int
 ballot:Int
 ns:List Int
abbrev NVote.enc (v:NVote):List D:=[uD v.slot,uD v.ballot, .sl v.ns.length (zad v.ns)]
def NVote.ok (v:NVote):Prop:=u8 v.slot∧u8 v.ballot∧v.ns.length<2^60∧∀x∈v.ns,u8 x
abbrev zfp (l:List NVote):List D:=l.flatMap NVote.enc
theorem zuE {l:List NVote} {i:Nat} (hi:i<l.length):(zfp l).drop (i*3)=l[i].enc++(zfp (l.drop (i+1))):=zda _ 3 l i hi fun _=>rfl
theorem zrL {l:List NVote}:(zfp l).length=l.length*3:=zcM _ 3 (fun _=>rfl) l
structure NTold where
 done:Int
 view:Int
 slot:Int
 time:Int
 votes:List NVote
abbrev NTold.enc (v:NTold):List D:=[uD v.done,uD v.view,uD v.slot,uD v.time, .sl v.votes.length (zfp v.votes)]
def NTold.ok (v:NTold):Prop:=u8 v.done∧u8 v.view∧u8 v.slot∧u8 v.time∧v.votes.length<2^60∧∀x∈v.votes,x.ok
abbrev zDV (l:List NTold):List D:=l.flatMap NTold.enc
def m8 (x:Int) (m:Nat):Int:=((x.toNat % m:Nat):Int)
theorem zkH {x:Int} {m:Nat} (hm:0<m):0≤m8 x m∧m8 x m<m:=by unfold m8;have:=Nat.mod_lt x.toNat hm;omega
def ziE (s:Nat) (v:NVote):Bool:=m8 v.slot 9+1==(s:Int)
def zdn (done:Int) (l:List NVote) (acc:List Vote):Nat→Nat→List Vote
 |0,_=>acc
 |n+1,s=>zdn done l (match l.find? (ziE s)with|some v=>acc++[⟨done+s,m8 v.ballot 9,zbz v.ns⟩]|none=>acc) n (s+1)
def zex (i:Int) (t:NTold):Prom:=⟨i,m8 t.done 8,⟨m8 t.view 4,m8 t.slot 6⟩,t.time,zdn (m8 t.done 8) t.votes [] 9 1⟩
abbrev zxF (p:Prom):RF:= .agg [.d (iD p.src), .d (iD p.done), .d (iD p.tip.view), .d (iD p.tip.slot), .d (iD p.time), .own 8 p.votes.length (zbo p.votes) false]
set_option maxHeartbeats 1000000 in
theorem zpg (i:Int) (t:NTold) (ht:t.ok):CallOK Tryz.prog 60 [.f (ai i), .f (ru t.done), .f (ru t.view), .f (ru t.slot), .f (ru t.time), .f (al t.votes.length (zfp t.votes))]
  (fun r o=>r=[zxF (zex i t)]∧o=[]):=by
 refine CallOK.nil ?_
 refine zh Tryz.func60 Tryz.results60 Tryz.ntmps60 Tryz.call60 ?_
 simp only[Tryz.f60,Option.getD]
 obtain⟨hd,hv,hs,hti,hl,hvs⟩:=ht
 have w0:=u8w hd
 have w1:=u8w hv
 have w2:=u8w hs
 have w3:=u8w hti
 have e8:t.done.tmod 8=m8 t.done 8:=zdm hd (m:=8) (by decide)
 have e4:t.view.tmod 4=m8 t.view 4:=zdm hv (m:=4) (by decide)
 have e6:t.slot.tmod 6=m8 t.slot 6:=zdm hs (m:=6) (by decide)
 refine zL0 (I w0 (I w1 (I w2 (I w3 (I e8 (I e4 e6)))))) ?_
 have hD:=zkH (x:=t.done) (m:=8) (by decide)
 obtain⟨dn,hDD⟩:∃x,x=m8 t.done 8:=⟨_,rfl⟩
 have hB:zex i t=⟨i,dn,⟨m8 t.view 4,m8 t.slot 6⟩,t.time,zdn dn t.votes [] 9 1⟩:=by rw[hDD];rfl
 rw[hB]
 rw[←hDD]at hD⊢
 generalize m8 t.view 4=TV
 generalize m8 t.slot 6=TS
 generalize t.time=TM
 generalize t.votes=l at*
 clear hB hDD e8 e4 e6 w0 w1 w2 w3 hd hv hs hti
 refine zai (τ:=Nat×Nat×List Vote) (fun t=>⟨(dq5 (al l.length (zfp l)::dq6 (ptq 12::ptq 13::ai t.2.1::zzn (zez [])))),
   [(12,⟨2,[obq 1 [di 0,di 0,di 0,di 0,di 0, .d (.v (.slice none 0 0))],none,none,none,none,none,none]⟩),(13,⟨2,[obq 1 [di i,di dn,di TV,di TS,di TM, .own ⟨13,6,1⟩ 0 t.2.2.length],none,none,none,none,none,roq 1 8 (zbo t.2.2)]⟩),(68,⟨2,[]⟩),(70,⟨2,[]⟩),(71,⟨2,[]⟩)]⟩)
  (fun t=>t.1+t.2.1=10∧t.2.2.length<t.2.1) (fun t=>zdn dn l t.2.2 t.1 t.2.1) (fun t=>t.1) (9,1,[])
  ((Gh.nilF 13 5 8 rfl).trans (Gh.canon [12,13] [68,70,71] [] zK rfl rfl)) ⟨rfl,Nat.zero_lt_one⟩ ?_
 intro⟨n,s,acc⟩ ⟨hn,ha⟩ hF K hK
 simp only at hn ha hF hK⊢
 have hws:IntKind.i64.wrap ((s:Int)+1)=((s+1:Nat):Int):=by rw[wrap64 (by omega) (by omega)];rfl
 refine zw ?_
 refine zaa (fun hlt=> ?_) (fun hge=> ?_)
 ·have hs9:s≤9:=by
   have:(s:Int)≤9:=by simpa using hlt
   omega
  obtain⟨m,rfl⟩:∃m,n=m+1:=⟨n - 1,by omega⟩
  have hf:zdn dn l acc (m+1) s=zdn dn l (match l.find? (ziE s)with|some v=>acc++[⟨dn+s,m8 v.ballot 9,zbz v.ns⟩]|none=>acc) m (s+1):=rfl
  have hwD:IntKind.i64.wrap (dn+s)=dn+s:=wrap64 (by omega) (by omega)
  refine zw ?_
  refine zai (τ:=Nat) (fun k=>⟨(dq5 (al l.length (zfp l)::dq6 (ptq 12::ptq 13::ai s::ai k::zu6 (zez [])))),
    [(12,⟨2,[obq 1 [di 0,di 0,di 0,di 0,di 0, .d (.v (.slice none 0 0))],none,none,none,none,none,none]⟩),(13,⟨2,[obq 1 [di i,di dn,di TV,di TS,di TM, .own ⟨13,6,1⟩ 0 acc.length],none,none,none,none,none,roq 1 8 (zbo acc)]⟩),(68,⟨2,[]⟩),(70,⟨2,[]⟩),(71,⟨2,[]⟩)]⟩)
   (fun k=>k≤l.length) (fun k=>(l.drop k).find? (ziE s)) (fun k=>l.length - k) 0
   (Gh.canon [12,13] [] [] zK rfl rfl) (Nat.zero_le _) ?_
  intro k hk0 hF2 K2 hK2
  simp only[List.drop_zero]at hk0 hF2 hK2⊢
  refine zw ?_
  refine zaa (fun hlt2=> ?_) (fun hge2=> ?_)
  ·have hk:k<l.length:=by simpa using hlt2
   have hat:=zuE hk
   simp only[List.cons_append,List.nil_append]at hat
   obtain⟨v1,v2,v3,v4⟩:=hvs _ (List.getElem_mem hk)
   have x1:=u8w v1
   have x2:=u8w v2
   have y1:l[k].slot.tmod 9=m8 l[k].slot 9:=zdm v1 (m:=9) (by decide)
   have y2:l[k].ballot.tmod 9=m8 l[k].ballot 9:=zdm v2 (m:=9) (by decide)
   have z1:=zkH (x:=l[k].slot) (m:=9) (by decide)
   have hw1:IntKind.i64.wrap (m8 l[k].slot 9+1)=m8 l[k].slot 9+1:=wrap64 (by omega) (by omega)
   rw[List.drop_eq_getElem_cons hk,List.find?_cons]at hF2
   have ht8:(zbo acc).take (acc.length*8)=zbo acc:=List.take_of_length_le (by rw[zaN];omega)
   have hbo:=zkk l[k].ns v3 v4
   repeat'(first|exact zC|refine zq (I hat (I @zrL (I x1 (I x2 (I y1 (I y2 (I hw1 (I hwD ht8)))))))) ?_|refine zx (hbo) ?_|(apply zaa<;>intro hb)|(apply I;exact zI)|(apply I<;>intro hg))
   ·have hv:ziE s l[k]=true:=hb
    rw[hv]at hF2
    simp only at hF2
    rw[←hF2]at hf
    refine hK _ (m,s+1,acc++[⟨dn+s,m8 l[k].ballot 9,zbz l[k].ns⟩]) (Gh.canon [12,13] [] [] (zk hws) rfl (by simp only[List.length_append,List.length_singleton];rw[votesE_snoc];rfl))
     ⟨by simp only;omega,by simp only[List.length_append,List.length_singleton];omega⟩ hf.symm (by simp only;omega)
   ·have hv:ziE s l[k]=false:=hb
    rw[hv]at hF2
    refine hK2 _ (k+1) (Gh.canon [12,13] [] [] (by simp only[zal hk (by omega),ddE,zhe,zmV,zhf,zjl,zjm,zjn,List.set_cons_zero,List.set_cons_succ,and_true,true_and,Int.natCast_zero,Int.cast_ofNat_Int,D.v.injEq,Value.int.injEq];try(repeat'(first|rfl|omega|with_reducible apply And.intro))) rfl rfl) hk (by rw[List.drop_eq_getElem_cons hk,List.find?_cons,hv]) (by omega)
  ·have hk:k=l.length:=by
    have:¬(k:Int)<l.length:=by simpa using hge2
    omega
   rw[hk,List.drop_length,List.find?_nil]at hF2
   rw[←hF2]at hf
   clear hF2 hK2
   refine zw ?_
   refine hK _ (m,s+1,acc) (Gh.canon [12,13] [] [] (zk hws) rfl rfl) ⟨by simp only;omega,by simp only;omega⟩ hf.symm (by simp only;omega)
 ·have hn0:n=0:=by
   have:¬(s:Int)≤9:=by simpa using hge
   omega
  subst hn0
  rw[zdn]at hF
  rw[←hF]
  repeat'(first|exact zC|refine zq0 ?_|(apply zaa<;>intro hb)|(apply I;exact zI)|(apply I<;>intro hg))
  simp[zaL,zcv,ze9,zf8,zax]
theorem zph (i:Int) (t:NTold) (_:0≤i∧i<7) (ht:t.ok):CallOK Tryz.prog 60 [.f (ai i), .f (ru t.done), .f (ru t.view), .f (ru t.slot), .f (ru t.time), .f (al t.votes.length (zfp t.votes))]
  (fun r o=>r=[zxF (zex i t)]∧o=[]):=zpg i t ht
theorem zpe (k:Nat):(nameOf k).size<2^62:=by
 unfold nameOf
 split<;>decide
theorem zbc {n:Int} (h1:0≤n) (h2:n<1000):i64 n:=by unfold i64;omega
theorem zzf (a b c:Int):i64 (zmL a b c).1∧i64 (zmL a b c).2.1∧(zmL a b c).2.2.size<2^62:=by
 have h6:=Nat.mod_lt a.toNat (show 0<6 by decide)
 have h7:=Nat.mod_lt b.toNat (show 0<7 by decide)
 refine⟨zbc (by simp only[zmL];omega) (by simp only[zmL];omega), ?_, ?_⟩
 ·simp only[zmL]
  split
  ·exact zbc (by omega) (by omega)
  ·exact zbc (by omega) (by omega)
 ·simp only[zmL]
  split
  ·exact zpe _
  ·decide
theorem zuC {c q a b d:Int} (hq:u8 q):(zom c q a b d).ok:=by
 have h8:=Nat.mod_lt c.toNat (show 0<8 by decide)
 obtain⟨h1,h2,h3⟩:=zzf a b d
 exact⟨zbc (by simp only[zom];omega) (by simp only[zom];omega),zbc (by simp only[zom];have:=hq.1;omega) (by simp only[zom];have:=hq.2;omega),h1,h2,h3⟩
theorem zmE {l:List Int} (h:∀x∈l,u8 x) (i:Nat):u8 (l.getD i 0):=by
 rw[List.getD_eq_getElem?_getD]
 cases hi:l[i]? with
 |none=>exact⟨Int.le_refl _,by decide⟩
 |some x=>exact h x (List.mem_of_getElem? hi)
theorem zja {l:List Int} (h:∀x∈l,u8 x):∀(n i:Nat) (acc:List Req),acc.length≤3→(∀r∈acc,r.ok)→(zgA l acc n i).length≤3∧∀r∈zgA l acc n i,r.ok
 |0,i,acc,h1,h2=>⟨h1,h2⟩
 |n+1,i,acc,h1,h2=>by
  rw[zgA]
  split
  ·rename_i hc
   dsimp only
   split
   ·exact zja h n (i+5) acc h1 h2
   ·refine zja h n (i+5) _ (by rw[List.length_append,List.length_singleton];omega) fun r hr=> ?_
    rcases List.mem_append.1 hr with hr|hr
    ·exact h2 r hr
    ·rw[List.mem_singleton]at hr
     subst hr
     exact zuC (zmE h _)
  ·exact⟨h1,h2⟩
theorem zoc {l:List Int} (h:∀x∈l,u8 x):(zbz l).ok∧(zbz l).reqs.length≤3:=by
 unfold zbz
 split
 ·exact⟨⟨zbc (by decide) (by decide),zbc (by decide) (by decide),zbc (by decide) (by decide),zbc (by decide) (by decide),by decide,fun r hr=>by cases hr⟩,by decide⟩
 ·obtain⟨h1,h2⟩:=zja h l.length 4 [] (by decide) (fun r hr=>by cases hr)
  have h8:=Nat.mod_lt (l.getD 2 0).toNat (show 0<8 by decide)
  have h4:=Nat.mod_lt (l.getD 0 0).toNat (show 0<4 by decide)
  have h6:=Nat.mod_lt (l.getD 1 0).toNat (show 0<6 by decide)
  have hu:=zmE h 3
  exact⟨⟨zbc (by simp only;omega) (by simp only;omega),zbc (by simp only;omega) (by simp only;omega),zbc (by simp only;omega) (by simp only;omega),zbc hu.1 (by have:=hu.2;simp only;omega),
   by simp only;omega,h2⟩,h1⟩
theorem zhV {d:Int} {l:List NVote} (hd:0≤d∧d<8) (h:∀v∈l,v.ok):∀(n s:Nat) (acc:List Vote),s+n≤10→(∀v∈acc,v.ok)→(∀v∈zdn d l acc n s,v.ok)∧(zdn d l acc n s).length≤acc.length+n
 |0,s,acc,_,h2=>⟨h2,Nat.le_refl _⟩
 |n+1,s,acc,hs,h2=>by
  rw[zdn]
  cases hf:l.find? (ziE s)with
  |none=>
   obtain⟨q1,q2⟩:=zhV hd h n (s+1) acc (by omega) h2
   exact⟨q1,by simp only;omega⟩
  |some v=>
   have hv:=h v (List.mem_of_find?_eq_some hf)
   have hm:=zkH (x:=v.ballot) (m:=9) (by decide)
   obtain⟨q1,q2⟩:=zhV hd h n (s+1) (acc++[⟨d+s,m8 v.ballot 9,zbz v.ns⟩]) (by omega) fun w hw=>by
    rcases List.mem_append.1 hw with hw|hw
    ·exact h2 w hw
    ·rw[List.mem_singleton]at hw
     subst hw
     exact⟨zbc (by simp only;omega) (by simp only;omega),zbc hm.1 (by have:=hm.2;simp only;omega),(zoc hv.2.2.2).1⟩
   rw[List.length_append,List.length_singleton]at q2
   exact⟨q1,by simp only;omega⟩
theorem zwF {i:Int} {t:NTold} (hi:0≤i∧i<7) (ht:t.ok):(zex i t).ok:=by
 have h8:=zkH (x:=t.done) (m:=8) (by decide)
 have h4:=zkH (x:=t.view) (m:=4) (by decide)
 have h6:=zkH (x:=t.slot) (m:=6) (by decide)
 obtain⟨_,_,_,hu,_,hv⟩:=ht
 obtain⟨q1,q2⟩:=zhV (d:=m8 t.done 8) ⟨h8.1,by have:=h8.2;omega⟩ hv 9 1 [] (by decide) (fun v hv=>by cases hv)
 exact⟨zbc hi.1 (by simp only[zex];omega),zbc h8.1 (by simp only[zex];have:=h8.2;omega),zbc h4.1 (by simp only[zex];have:=h4.2;omega),zbc h6.1 (by simp only[zex];have:=h6.2;omega),
  zbc hu.1 (by have:=hu.2;simp only[zex];omega),by simp only[zex];simp only[List.length_nil]at q2;omega,q1⟩
theorem zwG (k:Nat):nameP (nameOf k)=true:=by
 unfold nameOf
 split<;>decide
theorem zzg (a b c:Int):zlz (zmL a b c).1 (zmL a b c).2.1 (zmL a b c).2.2=true:=by
 have h6:=Nat.mod_lt a.toNat (show 0<6 by decide)
 have h7:=Nat.mod_lt b.toNat (show 0<7 by decide)
 have hn:=zwG (c.toNat % 6)
 unfold zlz zmL
 simp only
 generalize a.toNat % 6=k at h6⊢
 generalize b.toNat % 7=m at h7⊢
 generalize nameOf (c.toNat % 6)=nm at hn⊢
 have hk:k=0∨k=1∨k=2∨k=3∨k=4∨k=5:=by omega
 rcases hk with rfl|rfl|rfl|rfl|rfl|rfl<;>simp[hn]<;>first|rfl|omega
theorem zqB {c q a b d:Int} (hq:u8 q):Req.may (zom c q a b d)=true:=by
 have h8:=Nat.mod_lt c.toNat (show 0<8 by decide)
 have h:=zzg a b d
 unfold Req.may
 simp only[zom,h,Bool.and_true,Bool.and_eq_true,decide_eq_true_eq,zbx]
 have h1:=hq.1
 have h2:=hq.2
 refine⟨⟨⟨?_, ?_⟩, ?_⟩, ?_⟩
 all_goals exact decide_eq_true (by omega)
theorem zhW {l:List Req}:∀(rest pre:List Req),l=pre++rest→(∀r∈l,Req.may r=true)→(l.map Req.client).Nodup→zdy l pre.length rest=true
 |[],_,_,_,_=>rfl
 |r::rest,pre,hl,hm,hn=>by
  have hr:Req.may r=true:=hm r (by rw[hl];simp)
  have ht:l.take pre.length=pre:=by rw[hl];simp
  rw[zdy,if_neg]
  ·have:=zhW rest (pre++[r]) (by rw[hl];simp) hm hn
   rwa[List.length_append,List.length_singleton]at this
  ·rw[hr,ht]
   simp only[Bool.not_true,Bool.false_or,List.any_eq_true,not_exists,not_and,beq_iff_eq]
   intro o ho he
   rw[hl,List.map_append,List.map_cons,List.nodup_append]at hn
   exact hn.2.2 _ (List.mem_map_of_mem ho) _ (List.mem_cons_self ..) he
theorem zkj {l:List Int} (h:∀x∈l,u8 x):∀(n i:Nat) (acc:List Req),(∀r∈acc,Req.may r=true)→(acc.map Req.client).Nodup→
  (∀r∈zgA l acc n i,Req.may r=true)∧((zgA l acc n i).map Req.client).Nodup
 |0,i,acc,h1,h2=>⟨h1,h2⟩
 |n+1,i,acc,h1,h2=>by
  rw[zgA]
  split
  ·dsimp only
   split
   ·exact zkj h n (i+5) acc h1 h2
   ·rename_i hc
    refine zkj h n (i+5) _ (fun r hr=> ?_) ?_
    ·rcases List.mem_append.1 hr with hr|hr
     ·exact h1 r hr
     ·rw[List.mem_singleton]at hr
      subst hr
      exact zqB (zmE h _)
    ·rw[List.map_append,List.nodup_append]
     refine⟨h2,by simp,fun a ha b hb=> ?_⟩
     obtain⟨o,ho,rfl⟩:=List.mem_map.1 ha
     simp only[List.map_cons,List.map_nil,List.mem_singleton]at hb
     subst hb
     intro he
     exact hc (List.any_eq_true.2 ⟨o,ho,by rw[he];simp⟩)
  ·exact⟨h1,h2⟩
theorem zcS {n:Int} (h:0≤n) (h2:n<1000):bad n=false:=by
 unfold bad
 simp only[Bool.or_eq_false_iff,decide_eq_false_iff_not,zbx]
 omega
theorem zlI {l:List Int} (h:∀x∈l,u8 x):Batch.may (zbz l)=true:=by
 unfold zbz
 split
 ·rfl
 ·obtain⟨h1,h2⟩:=zkj h l.length 4 [] (fun r hr=>by cases hr) (by simp)
  obtain⟨h3,_⟩:=zja h l.length 4 [] (by decide) (fun r hr=>by cases hr)
  have h8:=Nat.mod_lt (l.getD 2 0).toNat (show 0<8 by decide)
  have h4:=Nat.mod_lt (l.getD 0 0).toNat (show 0<4 by decide)
  have h6:=Nat.mod_lt (l.getD 1 0).toNat (show 0<6 by decide)
  have hu:=zmE h 3
  unfold Batch.may
  simp only
  rw[if_neg (by simp),if_neg]
  ·exact zhW (l:=zgA l [] l.length 4) _ [] rfl h1 h2
  ·simp only[List.any_cons,List.any_nil,zcS (show(0:Int)≤(((l.getD 2 0).toNat % 8:Nat):Int) by omega) (by omega),zcS hu.1 (by have:=hu.2;omega),
    zcS (show(0:Int)≤(((l.getD 0 0).toNat % 4:Nat):Int) by omega) (by omega),zcS (show(0:Int)≤(((l.getD 1 0).toNat % 6:Nat):Int) by omega) (by omega)]
   simp
   omega
theorem zgw {d:Int} {l:List NVote}:∀(n s:Nat) (acc:List Vote),zdn d l acc n s=acc++zdn d l [] n s
 |0,s,acc=>by simp[zdn]
 |n+1,s,acc=>by
  rw[zdn,zdn]
  cases l.find? (ziE s)with
  |none=>simp only;exact zgw n (s+1) acc
  |some v=>
   simp only[List.nil_append]
   rw[zgw n (s+1) (acc++[_]),zgw n (s+1) [_],List.append_assoc]
theorem zin {d:Int} {l:List NVote} (hd:0≤d∧d<8) (h:∀v∈l,v.ok):∀(n s:Nat) (last:Int),s+n≤10→last<d+s→zcK d last (zdn d l [] n s)=true
 |0,s,last,_,_=>rfl
 |n+1,s,last,hs,hl=>by
  rw[zdn]
  cases hf:l.find? (ziE s)with
  |none=>simp only;exact zin hd h n (s+1) last (by omega) (by omega)
  |some v=>
   have hv:=h v (List.mem_of_find?_eq_some hf)
   have hm:=zkH (x:=v.ballot) (m:=9) (by decide)
   simp only[List.nil_append]
   rw[zgw,List.singleton_append,zcK,if_neg]
   ·exact zin hd h n (s+1) (d+s) (by omega) (by omega)
   ·simp only[zcS (show(0:Int)≤d+s by omega) (by omega),zcS hm.1 (by have:=hm.2;omega),zlI hv.2.2.2]
    simp
    omega
theorem zod {i:Int} {t:NTold} (hi:0≤i∧i<7) (ht:t.ok):Prom.may (zex i t)=true:=by
 have h8:=zkH (x:=t.done) (m:=8) (by decide)
 have h4:=zkH (x:=t.view) (m:=4) (by decide)
 have h6:=zkH (x:=t.slot) (m:=6) (by decide)
 obtain⟨_,_,_,hu,_,hv⟩:=ht
 have hd:0≤m8 t.done 8∧m8 t.done 8<8:=⟨h8.1,by have:=h8.2;omega⟩
 have q1:=zin (d:=m8 t.done 8) hd hv 9 1 (m8 t.done 8) (by decide) (by omega)
 obtain⟨_,q2⟩:=zhV (d:=m8 t.done 8) hd hv 9 1 [] (by decide) (fun v hv=>by cases hv)
 rw[List.length_nil]at q2
 have e:Prom.may (zex i t)=if(decide (i<0)||decide (i≥7)||[m8 t.done 8,m8 t.view 4,m8 t.slot 6,t.time].any bad||decide (((zdn (m8 t.done 8) t.votes [] 9 1).length:Int)>9))=true then false else zcK (m8 t.done 8) (m8 t.done 8) (zdn (m8 t.done 8) t.votes [] 9 1):=rfl
 rw[e,if_neg,q1]
 simp only[List.any_cons,List.any_nil,zcS h8.1 (by have:=h8.2;omega),zcS h4.1 (by have:=h4.2;omega),zcS h6.1 (by have:=h6.2;omega),zcS hu.1 (by have:=hu.2;omega)]
 simp
 omega
abbrev rds (bs:List Int) (p:Int):List RO:=rdr bs.length (zad bs) p
abbrev zrO (e:Int):Value:=zfv 177 e
abbrev Rr (α:Type):=Except Int (α×Int)
def rOf {α:Type} (x:α×Int×Int):Rr α:=if x.2.2=0 then .ok (x.1,x.2.1)else .error x.2.2
theorem zdF {α:Type} {x:α×Int×Int} {y:α×Int} (h:rOf x= .ok y):x.2.2=0∧y=(x.1,x.2.1):=by
 unfold rOf at h
 split at h
 ·rename_i h0;cases h;exact⟨h0,rfl⟩
 ·cases h
theorem zb6 {α:Type} {x:α×Int×Int} {e:Int} (h:rOf x= .error e):x.2.2=e∧e≠0:=by
 unfold rOf at h
 split at h
 ·cases h
 ·rename_i h0;cases h;exact⟨rfl,h0⟩
def zbf (bs:List Int) (p:Int):Rr Int:=rOf (zfy bs p)
def zbt (bs:List Int) (p:Int):Rr Int:=rOf (zbP bs p)
def zgy (bs:List Int) (p:Int):Rr ByteArray:=rOf (zcA bs p 12)
def zgz (bs:List Int) (p:Int):Rr Memo:=rOf (zf1 bs p)
def zbI (bs:List Int) (p most:Int):Rr Int:=match zbt bs p with
 | .error e=> .error e
 | .ok (n,q)=>if n>most then .error 4 else .ok (n,q)
theorem ziS:CallOK Tryz.prog 177 [.f (ai 0)] (fun r o=>r=[]∧o=[]):=by
 refine zh Tryz.func177 Tryz.results177 Tryz.ntmps177 Tryz.call177 ?_
 simp only[Tryz.f177,Option.getD]
 exact zW0 trivial
theorem zg9 (e:Int) (h:e≠0):zbW Tryz.prog 177 [.f (ai e)] (zrO e):=by
 refine zhy Tryz.func177 Tryz.ntmps177 Tryz.call177 ?_
 simp only[Tryz.f177,Option.getD]
 have h1:(e !=0)=true:=by simpa using h
 exact zW0 (I h1 @zab)
theorem zd0 (bs:List Int) (p:Int) (h:BsOk bs) (hp:i64 p) {y:Int×Int} (hy:zbf bs p= .ok y):
  CallOK Tryz.prog 144 [.obj (rds bs p)] (fun r o=>r=[ri y.1]∧o=[rds bs y.2]):=by
 obtain⟨h0,rfl⟩:=zdF hy
 refine zh Tryz.func144 Tryz.results144 Tryz.ntmps144 Tryz.call144 ?_
 simp only[Tryz.f144,Option.getD]
 have h1:=zfi bs p h hp
 rw[h0]at h1
 exact zW trivial (I (h1) (ziS))
theorem zc8 (bs:List Int) (p:Int) (h:BsOk bs) (hp:i64 p) {e:Int} (hy:zbf bs p= .error e):
  zbW Tryz.prog 144 [.obj (rds bs p)] (zrO e):=by
 obtain⟨h0,h2⟩:=zb6 hy
 refine zhy Tryz.func144 Tryz.ntmps144 Tryz.call144 ?_
 simp only[Tryz.f144,Option.getD]
 have h1:=zfi bs p h hp
 rw[h0]at h1
 refine zL trivial (h1) ?_
 refine zdB (zg9 e h2) rfl ?_
 first|refine zs @zab ?_|exact zt @zab
theorem zha (bs:List Int) (p:Int) (h:BsOk bs) (hp:i64 p) {y:Int×Int} (hy:zbt bs p= .ok y):
  CallOK Tryz.prog 179 [.obj (rds bs p)] (fun r o=>r=[ri y.1]∧o=[rds bs y.2]):=by
 obtain⟨h0,rfl⟩:=zdF hy
 refine zh Tryz.func179 Tryz.results179 Tryz.ntmps179 Tryz.call179 ?_
 simp only[Tryz.f179,Option.getD]
 have h1:=zdD bs p h hp
 rw[h0]at h1
 exact zW trivial (I (h1) (ziS))
theorem zhc (bs:List Int) (p:Int) (h:BsOk bs) (hp:i64 p) {e:Int} (hy:zbt bs p= .error e):
  zbW Tryz.prog 179 [.obj (rds bs p)] (zrO e):=by
 obtain⟨h0,h2⟩:=zb6 hy
 refine zhy Tryz.func179 Tryz.ntmps179 Tryz.call179 ?_
 simp only[Tryz.f179,Option.getD]
 have h1:=zdD bs p h hp
 rw[h0]at h1
 refine zL trivial (h1) ?_
 refine zdB (zg9 e h2) rfl ?_
 first|refine zs @zab ?_|exact zt @zab
theorem zr1 (bs:List Int) (p:Int) (h:BsOk bs) (hp:i64 p) {y:ByteArray×Int} (hy:zgy bs p= .ok y):
  CallOK Tryz.prog 199 [.obj (rds bs p)] (fun r o=>r=[.one (.d (sD y.1))]∧o=[rds bs y.2]):=by
 obtain⟨h0,rfl⟩:=zdF hy
 refine zh Tryz.func199 Tryz.results199 Tryz.ntmps199 Tryz.call199 ?_
 simp only[Tryz.f199,Option.getD]
 have h1:=zhD bs p 12 h hp
 rw[h0]at h1
 exact zW trivial (I (h1) (ziS))
theorem zqO (bs:List Int) (p:Int) (h:BsOk bs) (hp:i64 p) {e:Int} (hy:zgy bs p= .error e):
  zbW Tryz.prog 199 [.obj (rds bs p)] (zrO e):=by
 obtain⟨h0,h2⟩:=zb6 hy
 refine zhy Tryz.func199 Tryz.ntmps199 Tryz.call199 ?_
 simp only[Tryz.f199,Option.getD]
 have h1:=zhD bs p 12 h hp
 rw[h0]at h1
 refine zL trivial (h1) ?_
 refine zdB (zg9 e h2) rfl ?_
 first|refine zs @zab ?_|exact zt @zab
theorem zr2 (bs:List Int) (p:Int) (h:BsOk bs) (hp:i64 p) {y:Memo×Int} (hy:zgz bs p= .ok y):
  CallOK Tryz.prog 181 [.obj (rds bs p)] (fun r o=>r=[ztn y.1]∧o=[rds bs y.2]):=by
 obtain⟨h0,rfl⟩:=zdF hy
 refine zh Tryz.func181 Tryz.results181 Tryz.ntmps181 Tryz.call181 ?_
 simp only[Tryz.f181,Option.getD]
 have h1:=zf2 bs p h hp
 rw[h0]at h1
 refine zL trivial (I (h1) (ziS)) ?_
 rfl
theorem zqP (bs:List Int) (p:Int) (h:BsOk bs) (hp:i64 p) {e:Int} (hy:zgz bs p= .error e):
  zbW Tryz.prog 181 [.obj (rds bs p)] (zrO e):=by
 obtain⟨h0,h2⟩:=zb6 hy
 refine zhy Tryz.func181 Tryz.ntmps181 Tryz.call181 ?_
 simp only[Tryz.f181,Option.getD]
 have h1:=zf2 bs p h hp
 rw[h0]at h1
 refine zL trivial (h1) ?_
 refine zdB (zg9 e h2) rfl ?_
 first|refine zs @zab ?_|exact zt @zab
theorem zjj {bs:List Int} {p most:Int} {y:Int×Int} (hy:zbI bs p most= .ok y):zbt bs p= .ok y∧y.1≤most:=by
 unfold zbI at hy
 cases hz:zbt bs p with
 |error e=>rw[hz]at hy;cases hy
 |ok z=>
  rw[hz]at hy
  simp only at hy
  split at hy
  ·cases hy
  ·rename_i hgt
   cases hy
   exact⟨rfl,by simp only;omega⟩
theorem zga {bs:List Int} {p most:Int} {e:Int} (hy:zbI bs p most= .error e):zbt bs p= .error e∨∃z,zbt bs p= .ok z∧z.1>most∧e=4:=by
 unfold zbI at hy
 cases hz:zbt bs p with
 |error e=>rw[hz]at hy;cases hy;exact .inl rfl
 |ok z=>
  rw[hz]at hy
  simp only at hy
  split at hy
  ·rename_i hgt;cases hy;exact .inr ⟨z,rfl,hgt,rfl⟩
  ·cases hy
theorem zgb (bs:List Int) (p most:Int) (h:BsOk bs) (hp:i64 p) {y:Int×Int} (hy:zbI bs p most= .ok y):
  CallOK Tryz.prog 178 [.obj (rds bs p), .f (ai most)] (fun r o=>r=[ri y.1]∧o=[rds bs y.2]):=by
 obtain⟨hz,hle⟩:=zjj hy
 have h1:=zha bs p h hp hz
 have h2:decide (y.1>most)=false:=by simpa using hle
 refine zh Tryz.func178 Tryz.results178 Tryz.ntmps178 Tryz.call178 ?_
 simp only[Tryz.f178,Option.getD]
 refine zL0 trivial ?_
 refine zj (h1) ?_
 exact zW0 h2
theorem zfa (bs:List Int) (p most:Int) (h:BsOk bs) (hp:i64 p) {e:Int} (hy:zbI bs p most= .error e):
  zbW Tryz.prog 178 [.obj (rds bs p), .f (ai most)] (zrO e):=by
 refine zhy Tryz.func178 Tryz.ntmps178 Tryz.call178 ?_
 simp only[Tryz.f178,Option.getD]
 rcases zga hy with hz|⟨z,hz,hgt,rfl⟩
 ·have h1:=zhc bs p h hp hz
  refine zL0 trivial ?_
  refine zp (rds bs p) (h1) ?_
  first|refine zs @zab ?_|exact zt @zab
 ·have h1:=zha bs p h hp hz
  have h2:decide (z.1>most)=true:=by simpa using hgt
  refine zL0 trivial ?_
  refine zj (h1) ?_
  exact zW0 (I h2 @zab)
def zg8 (bs:List Int):Nat→Int→List Int→Rr (List Int)
 |0,p,acc=> .ok (acc,p)
 |n+1,p,acc=>match zbt bs p with
  | .error e=> .error e
  | .ok x=>zg8 bs n x.2 (acc++[x.1])
def zfA (bs:List Int) (p:Int):Rr Lk:=match zgy bs p with
 | .error e=> .error e
 | .ok nm=>match zbt bs nm.2 with
  | .error e=> .error e
  | .ok hd=>match zbf bs hd.2 with
   | .error e=> .error e
   | .ok tk=>match zbI bs tk.2 3 with
    | .error e=> .error e
    | .ok n=>match zg8 bs n.1.toNat n.2 []with
     | .error e=> .error e
     | .ok l=> .ok (⟨nm.1,hd.1,tk.1,l.1⟩,l.2)
theorem zav {bs:List Int} {p:Int} {y:Int×Int} (h:BsOk bs) (hy:zbf bs p= .ok y):i64 y.2:=by
 obtain⟨_,rfl⟩:=zdF hy
 exact zfu h.l zf3
theorem zbi {bs:List Int} {p:Int} {y:Int×Int} (h:BsOk bs) (hy:zbt bs p= .ok y):i64 y.2:=by
 obtain⟨_,rfl⟩:=zdF hy
 exact zfu h.l zd8
theorem zfB {bs:List Int} {p:Int} {y:Int×Int} (h:BsOk bs) (hy:zbt bs p= .ok y):0≤y.1∧y.1<256:=by
 obtain⟨_,rfl⟩:=zdF hy
 exact zjS h
theorem zh0 {bs:List Int} {p:Int} {y:ByteArray×Int} (h:BsOk bs) (hy:zgy bs p= .ok y):i64 y.2:=by
 obtain⟨_,rfl⟩:=zdF hy
 exact zfu h.l (zlp h)
theorem zc1 {bs:List Int} {p m:Int} {y:Int×Int} (h:BsOk bs) (hy:zbI bs p m= .ok y):i64 y.2∧0≤y.1∧y.1≤m:=by
 obtain⟨h1,h2⟩:=zjj hy
 exact⟨zbi h h1,(zfB h h1).1,h2⟩
abbrev zzG (bs:List Int) (q:Int) (nx:Nat):Nat×RS:=(0,{next:=nx,l:=[some {e:=0,var:=true,fz:=false,bor:=true,sz:=0,cells:=[.d (.sl bs.length (zad bs)),di q]},none,none]})
abbrev zBh (k:Lk):RF:= .agg [.d (sD k.name), .d (iD k.holder), .d (iD k.token), .own 1 k.line.length (zaQ k.line) false]
set_option maxHeartbeats 2000000 in
theorem zjh (bs:List Int) (p:Int) (h:BsOk bs) (hp:i64 p) (b:Bool) (y:Lk×Int) (e:Int) (hy:zmJ b y e (zfA bs p)):
  (b=true→CallOK Tryz.prog 180 [.obj (rds bs p)] (fun r o=>r=[zBh y.1]∧o=[rds bs y.2]))∧(b=false→zbW Tryz.prog 180 [.obj (rds bs p)] (zrO e)):=by
 refine zhb Tryz.func180 Tryz.results180 Tryz.ntmps180 Tryz.call180 ?_
 simp only[Tryz.f180,Option.getD]
 unfold zfA at hy
 cases e1:zgy bs p with
 |error x=>
  rw[e1]at hy
  obtain⟨rfl,rfl⟩:=zay hy
  have h1:=zqO bs p h hp e1
  refine zL0 trivial ?_
  refine zp (rds bs p) (h1) ?_
  first|refine zs (I @zak @zab) ?_|exact zt (I @zak @zab)
 |ok nm=>
 have h1:=zr1 bs p h hp e1
 rw[e1]at hy
 simp only at hy
 refine zL0 trivial ?_
 refine zj (h1) ?_
 cases e2:zbt bs nm.2 with
 |error x=>
  rw[e2]at hy
  obtain⟨rfl,rfl⟩:=zay hy
  have h2:=zhc bs _ h (zh0 h e1) e2
  refine zL0 trivial ?_
  refine zp (rds bs p) (h2) ?_
  first|refine zs (I @zak @zab) ?_|exact zt (I @zak @zab)
 |ok hd=>
 have h2:=zha bs _ h (zh0 h e1) e2
 rw[e2]at hy
 simp only at hy
 refine zL0 trivial ?_
 refine zj (h2) ?_
 cases e3:zbf bs hd.2 with
 |error x=>
  rw[e3]at hy
  obtain⟨rfl,rfl⟩:=zay hy
  have h3:=zc8 bs _ h (zbi h e2) e3
  refine zL0 trivial ?_
  refine zp (rds bs p) (h3) ?_
  first|refine zs (I @zak @zab) ?_|exact zt (I @zak @zab)
 |ok tk=>
 have h3:=zd0 bs _ h (zbi h e2) e3
 rw[e3]at hy
 simp only at hy
 refine zL0 trivial ?_
 refine zj (h3) ?_
 cases e4:zbI bs tk.2 3 with
 |error x=>
  rw[e4]at hy
  obtain⟨rfl,rfl⟩:=zay hy
  have h4:=zfa bs _ 3 h (zav h e3) e4
  refine zL0 trivial ?_
  refine zp (rds bs p) (h4) ?_
  first|refine zs (I @zak @zab) ?_|exact zt (I @zak @zab)
 |ok n=>
 have h4:=zgb bs _ 3 h (zav h e3) e4
 obtain⟨hn1,hn2,hn3⟩:=zc1 h e4
 rw[e4]at hy
 simp only at hy
 refine zL0 trivial ?_
 refine zj (h4) ?_
 refine zL0 trivial ?_
 refine zai (τ:=Nat×Int×List Int×Nat) (fun t=>⟨(.one (.ptr ⟨0,0,0⟩ 0)::dd::ptq 2::ptq 3::zr8 (ai n.1::ai t.1::zr8 [])),[zzG bs t.2.1 t.2.2.2,(2,⟨2,[obq 1 [dS .empty,di 0,di 0, .d (.v (.slice none 0 0))],none,none,none,none]⟩),(3,⟨2,[obq 1 [dS nm.1,di hd.1,di tk.1, .own ⟨3,4,1⟩ 0 t.2.2.1.length],none,none,none,roq 1 1 (zaQ t.2.2.1)]⟩),(21,⟨2,[]⟩),(22,⟨2,[]⟩)]⟩)
  (fun t=>t.1≤n.1.toNat∧i64 t.2.1∧t.2.2.1.length=t.1) (fun t=>zg8 bs (n.1.toNat - t.1) t.2.1 t.2.2.1) (fun t=>n.1.toNat - t.1) (0,n.2,[],5)
  ((Gh.nilF 3 3 1 rfl).trans (Gh.canon [0,2,3] [21,22] [0] zK rfl rfl)) ⟨Nat.zero_le _,hn1,rfl⟩ ?_
 intro⟨i,q,acc,nx⟩ ⟨hi0,hq,ha⟩ hF K hK
 simp only[Nat.sub_zero]at hi0 hq ha hF hK⊢
 rw[←hF]at hy
 refine zw ?_
 refine zaa (fun hlt=> ?_) (fun hge=> ?_)
 ·have hi:i<n.1.toNat:=by simp at hlt;omega
  have hw:=zal hi (by omega)
  have hst:n.1.toNat - i=(n.1.toNat - (i+1))+1:=by omega
  rw[hst,zg8]at hy
  cases hx:zbt bs q with
  |error x=>
   rw[hx]at hy
   obtain⟨rfl,rfl⟩:=zay hy
   have hr:=zhc bs q h hq hx
   first|refine zs0 ?_|exact zt0
   refine zfg _ _ (zlR zcQ mixed 3 [false,false,false,true,true,true,true,true] (zrO e) (fun g=> ?_) ?_)
   ·first|refine zs (I @zak @zab) ?_|exact zt (I @zak @zab)
   ·simp only[zow,zox,zjs]
    refine zL0 trivial ?_
    exact zn (rds bs q) (hr)
  |ok x=>
   have hF2:zg8 bs (n.1.toNat - (i+1)) x.2 (acc++[x.1])=zg8 bs (n.1.toNat - i) q acc:=by rw[hst,zg8,hx]
   have hr:=zha bs q h hq hx
   refine zL0 trivial ?_
   refine zj (hr) ?_
   refine zL0 @zaO ?_
   refine hK _ (i+1,x.2,acc++[x.1],nx+1) (Gh.canon [0,2,3] [] [0] (zk (I hw (I @List.length_append.{0} @List.length_singleton.{0}))) rfl (by simp only[List.length_append,List.length_singleton];rw[zh2];rfl)) ⟨hi,zbi h hx,by simp only[List.length_append,List.length_singleton];omega⟩ hF2 (by simp only;omega)
 ·have hi:i=n.1.toNat:=by
   have:¬(i:Int)<n.1:=by simpa using hge
   omega
  rw[hi,Nat.sub_self,zg8]at hy
  obtain⟨rfl,rfl⟩:=zdP hy
  exact zW0 @zdO
theorem zr0 (bs:List Int) (p:Int) (h:BsOk bs) (hp:i64 p) {y:Lk×Int} (hy:zfA bs p= .ok y):CallOK Tryz.prog 180 [.obj (rds bs p)] (fun r o=>r=[zBh y.1]∧o=[rds bs y.2]):=
 (zjh bs p h hp true y 0 hy).1 rfl
theorem zqN (bs:List Int) (p:Int) (h:BsOk bs) (hp:i64 p) {e:Int} (hy:zfA bs p= .error e):zbW Tryz.prog 180 [.obj (rds bs p)] (zrO e):=
 (zjh bs p h hp false (⟨.empty,0,0,[]⟩,0) e hy).2 rfl
theorem zji {bs:List Int} (h:BsOk bs):∀{n:Nat} {p:Int} {acc:List Int} {y:List Int×Int},i64 p→zg8 bs n p acc= .ok y→i64 y.2∧y.1.length=acc.length+n
 |0,p,acc,y,hp,hy=>by cases hy;exact⟨hp,rfl⟩
 |n+1,p,acc,y,hp,hy=>by
  rw[zg8]at hy
  cases hx:zbt bs p with
  |error x=>rw[hx]at hy;cases hy
  |ok x=>
   rw[hx]at hy
   have:=zji h (zbi h hx) hy
   rw[List.length_append,List.length_singleton]at this
   exact⟨this.1,by omega⟩
theorem zkO {bs:List Int} {p:Int} {y:ByteArray×Int} (hy:zgy bs p= .ok y):y.1.size≤bs.length:=by
 obtain⟨_,rfl⟩:=zdF hy
 exact zlo
theorem zoq {bs:List Int} (h:BsOk bs) {p:Int} {y:Lk×Int} (hy:zfA bs p= .ok y):i64 y.2∧y.1.line.length≤3∧y.1.name.size≤bs.length:=by
 unfold zfA at hy
 cases e1:zgy bs p with
 |error x=>rw[e1]at hy;cases hy
 |ok nm=>
 rw[e1]at hy;simp only at hy
 cases e2:zbt bs nm.2 with
 |error x=>rw[e2]at hy;cases hy
 |ok hd=>
 rw[e2]at hy;simp only at hy
 cases e3:zbf bs hd.2 with
 |error x=>rw[e3]at hy;cases hy
 |ok tk=>
 rw[e3]at hy;simp only at hy
 cases e4:zbI bs tk.2 3 with
 |error x=>rw[e4]at hy;cases hy
 |ok n=>
 rw[e4]at hy;simp only at hy
 obtain⟨hn1,hn2,hn3⟩:=zc1 h e4
 cases e5:zg8 bs n.1.toNat n.2 []with
 |error x=>rw[e5]at hy;cases hy
 |ok l=>
 rw[e5]at hy;simp only at hy
 obtain⟨f1,f2⟩:=zji h hn1 e5
 cases hy
 simp only[List.length_nil]at f2
 exact⟨f1,by simp only;omega,zkO e1⟩
end Go.Proofs.YtliimajkpggbhaaGreat
