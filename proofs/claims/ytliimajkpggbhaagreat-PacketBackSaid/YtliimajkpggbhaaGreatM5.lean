import Derived.Test.YtliimajkpggbhaaGreatK9
import Derived.Test.YtliimajkpggbhaaGreatPE
namespace Go.Proofs.YtliimajkpggbhaaGreat
open Go.Pk Tryz
set_option maxRecDepth 100000
set_option linter.unusedSimpArgs false
set_option linter.unusedVariables false
def zsB:Batch:=⟨true,0,⟨0,0⟩,0,[]⟩
theorem zfi {a b:RO} {l m:List RO}:zaQ (a::l) (b::m)=(zaA a b∧zaQ l m):=rfl
theorem zgh:zaQ [] []=True:=rfl
def u8 (n:Int):Prop:=0≤n∧n<256
abbrev ru (n:Int):AV:= .one (.d (.v (.int .u8 n)))
def nameOf (k:Nat):ByteArray:=
 match k with
 |0=>⟨#[97]⟩|1=>⟨#[98]⟩|2=>⟨#[99]⟩|3=>⟨#[100]⟩|4=>⟨#[107,101,121,45,49]⟩|_=>⟨#[116,104,101,45,108,97,115,116,45,111,110,101]⟩
theorem u8w {n:Int} (h:u8 n):IntKind.i64.wrap n=n:=wrap64 (by have:=h.1;omega) (by have:=h.2;omega)
theorem zoY (n:Int) (h:u8 n):CallOK prog 157 [.f (ru n)] (fun r o=>r=[.one (.d (sD (nameOf (n.toNat % 6))))]∧o=[]):=by
 refine zh func157 results157 ntmps157 call157 ?_
 simp only[f157,Option.getD]
 have hw:=u8w h
 have ht:n.tmod 6=((n.toNat % 6:Nat):Int):=by
  rw[Int.tmod_eq_emod_of_nonneg h.1]
  have:=h.1
  omega
 have hk:n.toNat % 6<6:=Nat.mod_lt _ (by decide)
 rw[show nameOf (n.toNat % 6)=nameOf (n.toNat % 6) from rfl]
 generalize n.toNat % 6=k at ht hk
 have hc:k=0∨k=1∨k=2∨k=3∨k=4∨k=5:=by omega
 rcases hc with rfl|rfl|rfl|rfl|rfl|rfl
 all_goals repeat'(first|with_reducible refine zae _ _ ?_|rw[zbP]|simp only[zB,hw,ht,Int.reduceEq,Nat.zero_mul,Nat.mul_one,Nat.one_mul,List.drop_zero,Int.toNat_natCast,List.drop_succ_cons,Nat.reduceSub,Nat.reduceEqDiff,Nat.reduceAdd,Nat.reduceMul,Nat.reduceLeDiff,Nat.reduceLT,Nat.reduceBEq,reduceCtorEq]|refine zbb ?_|refine zaa (fun hb=> ?_) (fun hb=> ?_)|(refine And.intro ?_ ?_;exact zI)|refine And.intro (fun hg=> ?_) (fun hg=> ?_)|exact zC|fail)
 all_goals rfl
theorem zdu {n:Int} {m:Nat} (h:u8 n) (hm:0<m):n.tmod m=((n.toNat % m:Nat):Int):=by
 rw[Int.tmod_eq_emod_of_nonneg h.1]
 have e:n=(n.toNat:Int):=by have:=h.1;omega
 rw[e,Int.toNat_natCast,Int.natCast_emod]
def znn (a b c:Int):Int×Int×ByteArray:=
 let k:Int:=1+((a.toNat % 6:Nat):Int)
 (k,if k=1 then 0 else 1+((b.toNat % 7:Nat):Int),if k=3∨k=4∨k=5 then nameOf (c.toNat % 6)else .empty)
theorem zvF (a b c:Int) (ha:u8 a) (hb:u8 b) (hc:u8 c):CallOK prog 108 [.f (ru a), .f (ru b), .f (ru c)]
  (fun r o=>r=[.agg [.d (iD (znn a b c).1), .d (iD (znn a b c).2.1), .d (sD (znn a b c).2.2)]]∧o=[]):=by
 refine zh func108 results108 ntmps108 call108 ?_
 simp only[f108,Option.getD]
 have hwa:=u8w ha
 have hwb:=u8w hb
 have e6:=zdu ha (m:=6) (by decide)
 have e7:=zdu hb (m:=7) (by decide)
 have l6:a.toNat % 6<6:=Nat.mod_lt _ (by decide)
 have l7:b.toNat % 7<7:=Nat.mod_lt _ (by decide)
 have hw1:IntKind.i64.wrap (1+((a.toNat % 6:Nat):Int))=1+((a.toNat % 6:Nat):Int):=wrap64 (by omega) (by omega)
 have hw2:IntKind.i64.wrap (1+((b.toNat % 7:Nat):Int))=1+((b.toNat % 7:Nat):Int):=wrap64 (by omega) (by omega)
 rw[show((6:Nat):Int)=6 from rfl]at e6
 rw[show((7:Nat):Int)=7 from rfl]at e7
 repeat'(first|with_reducible refine zae _ _ ?_|rw[zbP]|simp only[zB,hwa,hwb,e6,e7,hw1,hw2,Int.reduceEq,Nat.reduceSub,Nat.reduceEqDiff,Nat.reduceAdd,Nat.reduceMul,Nat.reduceLeDiff,Nat.reduceLT,Nat.reduceBEq,reduceCtorEq]|((first|((try refine zaV ?_);apply zaX)|(apply zba;intro _));(solve|exact(zoY c hc)|(refine CallOK.le (zoY c hc) ?_;exact zM)|fail);try case hn=>rfl)|refine zbb ?_|refine zaa (fun hb=> ?_) (fun hb=> ?_)|(refine And.intro ?_ ?_;exact zI)|refine And.intro (fun hg=> ?_) (fun hg=> ?_)|exact zC|fail)
 all_goals simp only[beq_iff_eq,beq_eq_false_iff_ne,ne_eq]at*
 all_goals first
  |(exfalso;omega)
  |(simp only[znn];(repeat' split)<;>first|rfl|(exfalso;omega))
def zo6 (c q a b d:Int):Req:=⟨((c.toNat % 8:Nat):Int),1+q,(znn a b d).1,(znn a b d).2.1,(znn a b d).2.2⟩
theorem zpZ (c q a b d:Int) (hc:u8 c) (hq:u8 q) (ha:u8 a) (hb:u8 b) (hd:u8 d):CallOK prog 58 [.f (ru c), .f (ru q), .f (ru a), .f (ru b), .f (ru d)]
  (fun r o=>r=[.agg ((zo6 c q a b d).enc.map RO.d)]∧o=[]):=by
 refine zh func58 results58 ntmps58 call58 ?_
 simp only[f58,Option.getD]
 have hwc:=u8w hc
 have hwq:=u8w hq
 have e8:=zdu hc (m:=8) (by decide)
 rw[show((8:Nat):Int)=8 from rfl]at e8
 have hw1:IntKind.i64.wrap (1+q)=1+q:=wrap64 (by have:=hq.1;omega) (by have:=hq.2;omega)
 repeat'(first|with_reducible refine zae _ _ ?_|rw[zbP]|simp only[zB,hwc,hwq,e8,hw1,Int.reduceEq,Nat.reduceSub,Nat.reduceEqDiff,Nat.reduceAdd,Nat.reduceMul,Nat.reduceLeDiff,Nat.reduceLT,Nat.reduceBEq,reduceCtorEq]|((first|((try refine zaV ?_);apply zaX)|(apply zba;intro _));(solve|exact(zvF a b d ha hb hd)|(refine CallOK.le (zvF a b d ha hb hd) ?_;exact zM)|fail);try case hn=>rfl)|refine zbb ?_|refine zaa (fun hb=> ?_) (fun hb=> ?_)|(refine And.intro ?_ ?_;exact zI)|refine And.intro (fun hg=> ?_) (fun hg=> ?_)|exact zC|fail)
 rfl
theorem bytes_at {l:List Int} {i:Nat} (hi:i<l.length):(zad l).drop i=uD l[i]::zad (l.drop (i+1)):=by
 rw[←List.map_drop,List.drop_eq_getElem_cons hi,List.map_cons]
def zgN (l:List Int) (acc:List Req):Nat→Nat→List Req
 |0,_=>acc
 |n+1,i=>if i+4<l.length∧acc.length<3 then
   let r:=zo6 (l.getD i 0) (l.getD (i+1) 0) (l.getD (i+2) 0) (l.getD (i+3) 0) (l.getD (i+4) 0)
   zgN l (if acc.any (fun o=>o.client==r.client)=true then acc else acc++[r]) n (i+5)else acc
abbrev zAi (b:Batch):RF:= .agg [.d (bD b.fill), .d (iD b.view), .d (iD b.tip.view), .d (iD b.tip.slot), .d (iD b.time), .own 5 b.reqs.length (zbW b.reqs) false]
def zbG (l:List Int):Batch:=
 if l.length<4∨l.getD 0 0=255 then zsB
 else⟨false,(((l.getD 2 0).toNat % 8:Nat):Int),⟨(((l.getD 0 0).toNat % 4:Nat):Int),(((l.getD 1 0).toNat % 6:Nat):Int)⟩,l.getD 3 0,zgN l [] l.length 4⟩
set_option maxHeartbeats 1000000 in
theorem zkG (l:List Int) (hl:l.length<2^60) (hu:∀x∈l,u8 x):CallOK prog 61 [.f (al l.length (zad l))] (fun r o=>r=[zAi (zbG l)]∧o=[]):=by
 refine CallOK.nil ?_
 refine zh func61 results61 ntmps61 call61 ?_
 simp only[f61,Option.getD]
 by_cases h4:l.length<4
 ·have hbad:Pk.bad=(⟨False, .one .dead,[]⟩:Out):=rfl
  cases l with
  |nil=>
   have hd:decide (((0:Nat):Int)<4)=true:=rfl
   repeat'(first|exact zC|refine zq (I hd (I @List.map_nil.{0,0} hbad)) ?_|(apply zaa<;>intro hb)|(apply I;exact zI)|(apply I<;>intro hg))
   simp[zaN,zcC,zfi,zgh,zaA,zsB,zbG]
  |cons x l=>
  have hd:decide (((l.length+1:Nat):Int)<4)=true:=decide_eq_true (by simp only[List.length_cons]at h4;omega)
  refine zL0 (I hd @List.map_cons.{0,0}) ?_
  rw[show zbG (x::l)=zsB from if_pos (Or.inl h4)]
  simp[zaN,zcC,zfi,zgh,zaA,zsB]
 obtain⟨x0,x1,x2,x3,l',rfl⟩:∃x0 x1 x2 x3 l',l=x0::x1::x2::x3::l':=by
  match l,h4 with
  |x0::x1::x2::x3::l',_=>exact⟨x0,x1,x2,x3,l',rfl⟩
  |[],h=>simp at h
  |[_],h=>simp at h
  |[_,_],h=>simp at h
  |[_,_,_],h=>simp at h
 have u0:=hu x0 (by simp)
 have u1:=hu x1 (by simp)
 have u2:=hu x2 (by simp)
 have u3:=hu x3 (by simp)
 have w0:=u8w u0
 have w1:=u8w u1
 have w2:=u8w u2
 have w3:=u8w u3
 have e4:x0.tmod 4=((x0.toNat % 4:Nat):Int):=zdu u0 (m:=4) (by decide)
 have e6:x1.tmod 6=((x1.toNat % 6:Nat):Int):=zdu u1 (m:=6) (by decide)
 have e8:x2.tmod 8=((x2.toNat % 8:Nat):Int):=zdu u2 (m:=8) (by decide)
 repeat'(first|with_reducible refine zae _ _ ?_|rw[zbP]|simp only[zB,Int.reduceEq,List.length_map,List.map_cons,Int.toNat_zero,Int.toNat_one,show Int.toNat 2=2 from rfl,show Int.toNat 3=3 from rfl,Nat.zero_mul,Nat.one_mul,Nat.mul_one,List.drop_zero,List.drop_succ_cons,w0,w1,w2,w3,e4,e6,e8,Nat.reduceSub,Nat.reduceEqDiff,Nat.reduceAdd,Nat.reduceMul,Nat.reduceLeDiff,Nat.reduceLT,Nat.reduceBEq,reduceCtorEq]|refine zbb ?_|refine zaa (fun hb=> ?_) (fun hb=> ?_)|(refine And.intro ?_ ?_;exact zI)|refine And.intro (fun hg=> ?_) (fun hg=> ?_)|exact zC|fail)
 ·have hf:zbG (x0::x1::x2::x3::l')=zsB:=by
   unfold zbG
   rw[if_pos]
   right
   simp at hb
   rcases hb with hb|hb
   ·omega
   ·exact hb
  rw[hf]
  simp[zaN,zcC,zfi,zgh,zaA,zsB]
 obtain⟨l,hll⟩:∃l,l=x0::x1::x2::x3::l':=⟨_,rfl⟩
 have hE:uD x0::uD x1::uD x2::uD x3::List.map uD l'=zad l:=by rw[hll];rfl
 have hL:l'.length+1+1+1+1=l.length:=by rw[hll];rfl
 rw[hE,hL]
 -- state:the view,the tip,the time are those of the head
 have hbe:zbG (x0::x1::x2::x3::l')=⟨false,((x2.toNat % 8:Nat):Int),⟨((x0.toNat % 4:Nat):Int),((x1.toNat % 6:Nat):Int)⟩,x3,zgN l [] l.length 4⟩:=by
  unfold zbG
  rw[if_neg (by simp at hb;simp;omega),hll]
  rfl
 rw[hbe]
 have hl':l.length<2^60:=by rw[hll];exact hl
 have hu':∀x∈l,u8 x:=by rw[hll];exact hu
 have h4':4≤l.length:=by rw[hll];simp
 clear hbe hb hE hL hll h4 hl hu e4 e6 e8 w0 w1 w2 w3 u0 u1 u2 u3
 generalize ((x2.toNat % 8:Nat):Int)=V at*
 generalize ((x0.toNat % 4:Nat):Int)=TV at*
 generalize ((x1.toNat % 6:Nat):Int)=TS at*
 refine zaf (τ:=Nat×Nat×List Req) (fun t=>⟨(al l.length (zad l)::dd::ptq 2::ptq 3::ai t.2.1::zs7 (zec (zec []))),
   [(2,⟨2,[obq 1 [db false,di 0,di 0,di 0,di 0, .d (.v (.slice none 0 0))],none,none,none,none,none,none]⟩),(3,⟨2,[obq 1 [db false,di V,di TV,di TS,di x3, .own ⟨3,6,1⟩ 0 t.2.2.length],none,none,none,none,none,roq 1 5 (zbW t.2.2)]⟩),(5,⟨2,[]⟩),(101,⟨2,[]⟩),(102,⟨2,[]⟩)]⟩)
  (fun t=>l.length≤t.2.1+t.1∧t.2.1≤l.length+9∧t.2.2.length≤3) (fun t=>zgN l t.2.2 t.1 t.2.1) (fun t=>t.1) (l.length,4,[])
  ((Gh.nilF 3 5 5 rfl).trans (Gh.canon [2,3] [5,101,102] [] zK rfl rfl)) ⟨by simp only;omega,by simp only;omega,Nat.zero_le _⟩ ?_
 intro⟨n,i,acc⟩ ⟨hn,hi9,ha3⟩ hF K hK
 simp only at hn hi9 ha3 hF hK⊢
 have hwi:IntKind.i64.wrap ((i:Int)+4)=((i+4:Nat):Int):=by rw[wrap64 (by omega) (by omega)];rfl
 have hw5:IntKind.i64.wrap ((i:Int)+5)=((i+5:Nat):Int):=by rw[wrap64 (by omega) (by omega)];rfl
 repeat'(first|exact zC|refine za hwi ?_|(apply zaa<;>intro hb)|(apply I;exact zI)|(apply I<;>intro hg))
 ·have hi:i+4<l.length:=by simp at hb;omega
  have ha2:acc.length<3:=by simp at hb;omega
  have g0:=bytes_at (show i<l.length by omega)
  have g1:=bytes_at (show i+1<l.length by omega)
  have g2:=bytes_at (show i+2<l.length by omega)
  have g3:=bytes_at (show i+3<l.length by omega)
  have g4:=bytes_at hi
  have k1:IntKind.i64.wrap ((i:Int)+1)=((i+1:Nat):Int):=by rw[wrap64 (by omega) (by omega)];rfl
  have k2:IntKind.i64.wrap ((i:Int)+2)=((i+2:Nat):Int):=by rw[wrap64 (by omega) (by omega)];rfl
  have k3:IntKind.i64.wrap ((i:Int)+3)=((i+3:Nat):Int):=by rw[wrap64 (by omega) (by omega)];rfl
  have um:∀k (h:k<l.length),u8 l[k]:=fun k h=>hu' _ (List.getElem_mem h)
  clear hb
  repeat'(first|exact zC|refine za (I hwi (I k1 (I k2 (I k3 (I g0 (I g1 (I g2 (I g3 (I g4 (I @Nat.mul_one @List.length_map.{0,0})))))))))) ?_|((first|((try refine zaV ?_);apply zaX)|(apply zba;intro _));(solve|exact(zpZ _ _ _ _ _ (um _ _) (um _ _) (um _ _) (um _ _) (um _ _))|(refine CallOK.le (zpZ _ _ _ _ _ (um _ _) (um _ _) (um _ _) (um _ _) (um _ _)) ?_;exact zM)|fail);try case hn=>rfl)|(apply zaa<;>intro hb)|(apply I;exact zI)|(apply I<;>intro hg))
  obtain⟨r,hr⟩:∃r,r=zo6 l[i] l[i+1] l[i+2] l[i+3] l[i+4]:=⟨_,rfl⟩
  rw[←hr]
  have hf:zgN l acc n i=zgN l (if acc.any (fun o=>o.client==r.client)=true then acc else acc++[r]) (n - 1) (i+5):=by
   obtain⟨m,rfl⟩:∃m,n=m+1:=⟨n - 1,by omega⟩
   rw[zgN,if_pos ⟨hi,ha2⟩]
   simp only[List.getD_eq_getElem?_getD,List.getElem?_eq_getElem (show i<l.length by omega),List.getElem?_eq_getElem (show i+1<l.length by omega),List.getElem?_eq_getElem (show i+2<l.length by omega),
    List.getElem?_eq_getElem (show i+3<l.length by omega),List.getElem?_eq_getElem hi,Option.getD_some,←hr]
   rfl
  refine zaf (τ:=Nat×Bool) (fun t=>⟨(al l.length (zad l)::dd::ptq 2::ptq 3::ai i::ptq 5::ab t.2::ai t.1::zy1 (zec (zec []))),
    [(2,⟨2,[obq 1 [db false,di 0,di 0,di 0,di 0, .d (.v (.slice none 0 0))],none,none,none,none,none,none]⟩),(3,⟨2,[obq 1 [db false,di V,di TV,di TS,di x3, .own ⟨3,6,1⟩ 0 acc.length],none,none,none,none,none,roq 1 5 (zbW acc)]⟩),
     (5,⟨2,[obq 1 [.d (iD r.client), .d (iD r.seq), .d (iD r.kind), .d (iD r.session), .d (sD r.name)],none,none,none,none,none]⟩),(101,⟨2,[]⟩),(102,⟨2,[]⟩)]⟩)
   (fun t=>t.1≤acc.length) (fun t=>t.2||(acc.drop t.1).any (fun o=>o.client==r.client)) (fun t=>acc.length - t.1) (0,false)
   (Gh.canon [2,3,5] [] [] zK rfl rfl) (Nat.zero_le _) ?_
  intro⟨k,b⟩ hk0 hF2 K2 hK2
  simp only at hk0 hF2 hK2⊢
  refine zw ?_
  refine zaa (fun hlt=> ?_) (fun hge=> ?_)
  ·have hk:k<acc.length:=by simpa using hlt
   have hat:=zfL hk
   simp only[List.cons_append,List.nil_append]at hat
   refine zCb (I hat (I @zaP (I @List.length_map.{0,0} (I @zbu (I @zda (I @Nat.zero_mul (I @List.drop_zero.{0} (I @zmd @List.map_cons.{0,0})))))))) ?_
   refine hK2 _ (k+1,(b||acc[k].client==r.client)) (Gh.canon [2,3,5] [] [] (by simp only[zai hk (by omega),ddE,zhs,znx,zht,zjF,zjG,zjH,List.set_cons_zero,List.set_cons_succ,and_true,true_and,Int.natCast_zero,Int.cast_ofNat_Int,D.v.injEq,Value.int.injEq];try(repeat'(first|rfl|omega|with_reducible apply And.intro))) rfl rfl) hk ?_ (by simp only;omega)
   rw[List.drop_eq_getElem_cons hk,List.any_cons,Bool.or_assoc]
  ·have hk:k=acc.length:=by
    have:¬(k:Int)<acc.length:=by simpa using hge
    omega
   rw[hk,List.drop_length,List.any_nil,List.drop_zero,Bool.or_false,Bool.false_or]at hF2
   rw[←hF2]at hf
   clear hF2 hK2
   have ht:(zbW acc).take (acc.length*5)=zbW acc:=List.take_of_length_le (by rw[zaP];omega)
   repeat'(first|exact zC|refine zq ht ?_|(apply zaa<;>intro hb)|(apply I;exact zI)|(apply I<;>intro hg))
   ·rw[if_neg (by simpa using hb)]at hf
    refine hK _ (n - 1,i+5,acc++[r]) (Gh.canon [2,3] [] [] (zk hw5) rfl (by simp only[List.length_append,List.length_singleton];rw[reqsE_snoc];rfl)) ⟨by simp only;omega,by simp only;omega,by simp only[List.length_append,List.length_singleton];omega⟩ hf.symm (by simp only;omega)
   ·rw[if_pos (by simpa using hb)]at hf
    refine hK _ (n - 1,i+5,acc) (Gh.canon [2,3] [] [] (zk hw5) rfl rfl) ⟨by simp only;omega,by simp only;omega,ha3⟩ hf.symm (by simp only;omega)
 ·have hf:zgN l acc n i=acc:=by
   cases n with
   |zero=>rfl
   |succ n=>rw[zgN,if_neg (by intro h;simp at hb;have:=hb (by omega);omega)]
  rw[hf]at hF
  rw[←hF]
  repeat'(first|exact zC|refine za (I @zbu (I @zda (I @Nat.zero_mul @List.drop_zero.{0}))) ?_|(apply zaa<;>intro hb)|(apply I;exact zI)|(apply I<;>intro hg))
  simp[zaN,zcC,zfi,zgh,zaA]
structure NVote where
 slot:Int
 ballot:Int
 ns:List Int
abbrev NVote.enc (v:NVote):List D:=[uD v.slot,uD v.ballot, .sl v.ns.length (zad v.ns)]
def NVote.ok (v:NVote):Prop:=u8 v.slot∧u8 v.ballot∧v.ns.length<2^60∧∀x∈v.ns,u8 x
abbrev zfz (l:List NVote):List D:=l.flatMap NVote.enc
theorem zvG {l:List NVote} {i:Nat} (hi:i<l.length):(zfz l).drop (i*3)=l[i].enc++(zfz (l.drop (i+1))):=zdj _ 3 l i hi fun _=>rfl
theorem zsC {l:List NVote}:(zfz l).length=l.length*3:=zcT _ 3 (fun _=>rfl) l
structure NTold where
 done:Int
 view:Int
 slot:Int
 time:Int
 votes:List NVote
abbrev NTold.enc (v:NTold):List D:=[uD v.done,uD v.view,uD v.slot,uD v.time, .sl v.votes.length (zfz v.votes)]
def NTold.ok (v:NTold):Prop:=u8 v.done∧u8 v.view∧u8 v.slot∧u8 v.time∧v.votes.length<2^60∧∀x∈v.votes,x.ok
abbrev zEU (l:List NTold):List D:=l.flatMap NTold.enc
def m8 (x:Int) (m:Nat):Int:=((x.toNat % m:Nat):Int)
theorem zk3 {x:Int} {m:Nat} (hm:0<m):0≤m8 x m∧m8 x m<m:=by unfold m8;have:=Nat.mod_lt x.toNat hm;omega
def ziW (s:Nat) (v:NVote):Bool:=m8 v.slot 9+1==(s:Int)
def zdv (done:Int) (l:List NVote) (acc:List Vote):Nat→Nat→List Vote
 |0,_=>acc
 |n+1,s=>zdv done l (match l.find? (ziW s)with|some v=>acc++[⟨done+s,m8 v.ballot 9,zbG v.ns⟩]|none=>acc) n (s+1)
def zeH (i:Int) (t:NTold):Prom:=⟨i,m8 t.done 8,⟨m8 t.view 4,m8 t.slot 6⟩,t.time,zdv (m8 t.done 8) t.votes [] 9 1⟩
abbrev zyO (p:Prom):RF:= .agg [.d (iD p.src), .d (iD p.done), .d (iD p.tip.view), .d (iD p.tip.slot), .d (iD p.time), .own 8 p.votes.length (zbv p.votes) false]
set_option maxHeartbeats 1000000 in
theorem zp0 (i:Int) (t:NTold) (ht:t.ok):CallOK prog 60 [.f (ai i), .f (ru t.done), .f (ru t.view), .f (ru t.slot), .f (ru t.time), .f (al t.votes.length (zfz t.votes))]
  (fun r o=>r=[zyO (zeH i t)]∧o=[]):=by
 refine CallOK.nil ?_
 refine zh func60 results60 ntmps60 call60 ?_
 simp only[f60,Option.getD]
 obtain⟨hd,hv,hs,hti,hl,hvs⟩:=ht
 have w0:=u8w hd
 have w1:=u8w hv
 have w2:=u8w hs
 have w3:=u8w hti
 have e8:t.done.tmod 8=m8 t.done 8:=zdu hd (m:=8) (by decide)
 have e4:t.view.tmod 4=m8 t.view 4:=zdu hv (m:=4) (by decide)
 have e6:t.slot.tmod 6=m8 t.slot 6:=zdu hs (m:=6) (by decide)
 refine zL0 (I w0 (I w1 (I w2 (I w3 (I e8 (I e4 e6)))))) ?_
 have hD:=zk3 (x:=t.done) (m:=8) (by decide)
 obtain⟨dn,hDD⟩:∃x,x=m8 t.done 8:=⟨_,rfl⟩
 have hB:zeH i t=⟨i,dn,⟨m8 t.view 4,m8 t.slot 6⟩,t.time,zdv dn t.votes [] 9 1⟩:=by rw[hDD];rfl
 rw[hB]
 rw[←hDD]at hD⊢
 generalize m8 t.view 4=TV
 generalize m8 t.slot 6=TS
 generalize t.time=TM
 generalize t.votes=l at*
 clear hB hDD e8 e4 e6 w0 w1 w2 w3 hd hv hs hti
 refine zaf (τ:=Nat×Nat×List Vote) (fun t=>⟨(dq5 (al l.length (zfz l)::dq6 (ptq 12::ptq 13::ai t.2.1::zAr (zec [])))),
   [(12,⟨2,[obq 1 [di 0,di 0,di 0,di 0,di 0, .d (.v (.slice none 0 0))],none,none,none,none,none,none]⟩),(13,⟨2,[obq 1 [di i,di dn,di TV,di TS,di TM, .own ⟨13,6,1⟩ 0 t.2.2.length],none,none,none,none,none,roq 1 8 (zbv t.2.2)]⟩),(68,⟨2,[]⟩),(70,⟨2,[]⟩),(71,⟨2,[]⟩)]⟩)
  (fun t=>t.1+t.2.1=10∧t.2.2.length<t.2.1) (fun t=>zdv dn l t.2.2 t.1 t.2.1) (fun t=>t.1) (9,1,[])
  ((Gh.nilF 13 5 8 rfl).trans (Gh.canon [12,13] [68,70,71] [] zK rfl rfl)) ⟨rfl,Nat.zero_lt_one⟩ ?_
 intro⟨n,s,acc⟩ ⟨hn,ha⟩ hF K hK
 simp only at hn ha hF hK⊢
 have hws:IntKind.i64.wrap ((s:Int)+1)=((s+1:Nat):Int):=by rw[wrap64 (by omega) (by omega)];rfl
 refine zw ?_
 refine zaa (fun hlt=> ?_) (fun hge=> ?_)
 ·have hs9:s≤9:=by
   have:(s:Int)≤9:=by simpa using hlt
   omega
  obtain⟨m,rfl⟩:∃m,n=m+1:=⟨n - 1,by omega⟩
  have hf:zdv dn l acc (m+1) s=zdv dn l (match l.find? (ziW s)with|some v=>acc++[⟨dn+s,m8 v.ballot 9,zbG v.ns⟩]|none=>acc) m (s+1):=rfl
  have hwD:IntKind.i64.wrap (dn+s)=dn+s:=wrap64 (by omega) (by omega)
  refine zw ?_
  refine zaf (τ:=Nat) (fun k=>⟨(dq5 (al l.length (zfz l)::dq6 (ptq 12::ptq 13::ai s::ai k::zvT (zec [])))),
    [(12,⟨2,[obq 1 [di 0,di 0,di 0,di 0,di 0, .d (.v (.slice none 0 0))],none,none,none,none,none,none]⟩),(13,⟨2,[obq 1 [di i,di dn,di TV,di TS,di TM, .own ⟨13,6,1⟩ 0 acc.length],none,none,none,none,none,roq 1 8 (zbv acc)]⟩),(68,⟨2,[]⟩),(70,⟨2,[]⟩),(71,⟨2,[]⟩)]⟩)
   (fun k=>k≤l.length) (fun k=>(l.drop k).find? (ziW s)) (fun k=>l.length - k) 0
   (Gh.canon [12,13] [] [] zK rfl rfl) (Nat.zero_le _) ?_
  intro k hk0 hF2 K2 hK2
  simp only[List.drop_zero]at hk0 hF2 hK2⊢
  refine zw ?_
  refine zaa (fun hlt2=> ?_) (fun hge2=> ?_)
  ·have hk:k<l.length:=by simpa using hlt2
   have hat:=zvG hk
   simp only[List.cons_append,List.nil_append]at hat
   obtain⟨v1,v2,v3,v4⟩:=hvs _ (List.getElem_mem hk)
   have x1:=u8w v1
   have x2:=u8w v2
   have y1:l[k].slot.tmod 9=m8 l[k].slot 9:=zdu v1 (m:=9) (by decide)
   have y2:l[k].ballot.tmod 9=m8 l[k].ballot 9:=zdu v2 (m:=9) (by decide)
   have z1:=zk3 (x:=l[k].slot) (m:=9) (by decide)
   have hw1:IntKind.i64.wrap (m8 l[k].slot 9+1)=m8 l[k].slot 9+1:=wrap64 (by omega) (by omega)
   rw[List.drop_eq_getElem_cons hk,List.find?_cons]at hF2
   have ht8:(zbv acc).take (acc.length*8)=zbv acc:=List.take_of_length_le (by rw[zaO];omega)
   have hbo:=zkG l[k].ns v3 v4
   repeat'(first|exact zC|refine zq (I hat (I @zsC (I x1 (I x2 (I y1 (I y2 (I hw1 (I hwD ht8)))))))) ?_|refine zx (hbo) ?_|(apply zaa<;>intro hb)|(apply I;exact zI)|(apply I<;>intro hg))
   ·have hv:ziW s l[k]=true:=hb
    rw[hv]at hF2
    simp only at hF2
    rw[←hF2]at hf
    refine hK _ (m,s+1,acc++[⟨dn+s,m8 l[k].ballot 9,zbG l[k].ns⟩]) (Gh.canon [12,13] [] [] (zk hws) rfl (by simp only[List.length_append,List.length_singleton];rw[votesE_snoc];rfl))
     ⟨by simp only;omega,by simp only[List.length_append,List.length_singleton];omega⟩ hf.symm (by simp only;omega)
   ·have hv:ziW s l[k]=false:=hb
    rw[hv]at hF2
    refine hK2 _ (k+1) (Gh.canon [12,13] [] [] (by simp only[zai hk (by omega),ddE,zhs,znx,zht,zjF,zjG,zjH,List.set_cons_zero,List.set_cons_succ,and_true,true_and,Int.natCast_zero,Int.cast_ofNat_Int,D.v.injEq,Value.int.injEq];try(repeat'(first|rfl|omega|with_reducible apply And.intro))) rfl rfl) hk (by rw[List.drop_eq_getElem_cons hk,List.find?_cons,hv]) (by omega)
  ·have hk:k=l.length:=by
    have:¬(k:Int)<l.length:=by simpa using hge2
    omega
   rw[hk,List.drop_length,List.find?_nil]at hF2
   rw[←hF2]at hf
   clear hF2 hK2
   refine zw ?_
   refine hK _ (m,s+1,acc) (Gh.canon [12,13] [] [] (zk hws) rfl rfl) ⟨by simp only;omega,by simp only;omega⟩ hf.symm (by simp only;omega)
 ·have hn0:n=0:=by
   have:¬(s:Int)≤9:=by simpa using hge
   omega
  subst hn0
  rw[zdv]at hF
  rw[←hF]
  repeat'(first|exact zC|refine zq0 ?_|(apply zaa<;>intro hb)|(apply I;exact zI)|(apply I<;>intro hg))
  simp[zaN,zcC,zfi,zgh,zaA]
theorem zp1 (i:Int) (t:NTold) (_:0≤i∧i<7) (ht:t.ok):CallOK prog 60 [.f (ai i), .f (ru t.done), .f (ru t.view), .f (ru t.slot), .f (ru t.time), .f (al t.votes.length (zfz t.votes))]
  (fun r o=>r=[zyO (zeH i t)]∧o=[]):=zp0 i t ht
theorem zpY (k:Nat):(nameOf k).size<2^62:=by
 unfold nameOf
 split<;>decide
theorem zbh {n:Int} (h1:0≤n) (h2:n<1000):i64 n:=by unfold i64;omega
theorem zAg (a b c:Int):i64 (znn a b c).1∧i64 (znn a b c).2.1∧(znn a b c).2.2.size<2^62:=by
 have h6:=Nat.mod_lt a.toNat (show 0<6 by decide)
 have h7:=Nat.mod_lt b.toNat (show 0<7 by decide)
 refine⟨zbh (by simp only[znn];omega) (by simp only[znn];omega), ?_, ?_⟩
 ·simp only[znn]
  split
  ·exact zbh (by omega) (by omega)
  ·exact zbh (by omega) (by omega)
 ·simp only[znn]
  split
  ·exact zpY _
  ·decide
theorem zvE {c q a b d:Int} (hq:u8 q):(zo6 c q a b d).ok:=by
 have h8:=Nat.mod_lt c.toNat (show 0<8 by decide)
 obtain⟨h1,h2,h3⟩:=zAg a b d
 exact⟨zbh (by simp only[zo6];omega) (by simp only[zo6];omega),zbh (by simp only[zo6];have:=hq.1;omega) (by simp only[zo6];have:=hq.2;omega),h1,h2,h3⟩
theorem znd {l:List Int} (h:∀x∈l,u8 x) (i:Nat):u8 (l.getD i 0):=by
 rw[List.getD_eq_getElem?_getD]
 cases hi:l[i]? with
 |none=>exact⟨Int.le_refl _,by decide⟩
 |some x=>exact h x (List.mem_of_getElem? hi)
theorem zjs {l:List Int} (h:∀x∈l,u8 x):∀(n i:Nat) (acc:List Req),acc.length≤3→(∀r∈acc,r.ok)→(zgN l acc n i).length≤3∧∀r∈zgN l acc n i,r.ok
 |0,i,acc,h1,h2=>⟨h1,h2⟩
 |n+1,i,acc,h1,h2=>by
  rw[zgN]
  split
  ·rename_i hc
   dsimp only
   split
   ·exact zjs h n (i+5) acc h1 h2
   ·refine zjs h n (i+5) _ (by rw[List.length_append,List.length_singleton];omega) fun r hr=> ?_
    rcases List.mem_append.1 hr with hr|hr
    ·exact h2 r hr
    ·rw[List.mem_singleton]at hr
     subst hr
     exact zvE (znd h _)
  ·exact⟨h1,h2⟩
theorem zoW {l:List Int} (h:∀x∈l,u8 x):(zbG l).ok∧(zbG l).reqs.length≤3:=by
 unfold zbG
 split
 ·exact⟨⟨zbh (by decide) (by decide),zbh (by decide) (by decide),zbh (by decide) (by decide),zbh (by decide) (by decide),by decide,fun r hr=>by cases hr⟩,by decide⟩
 ·obtain⟨h1,h2⟩:=zjs h l.length 4 [] (by decide) (fun r hr=>by cases hr)
  have h8:=Nat.mod_lt (l.getD 2 0).toNat (show 0<8 by decide)
  have h4:=Nat.mod_lt (l.getD 0 0).toNat (show 0<4 by decide)
  have h6:=Nat.mod_lt (l.getD 1 0).toNat (show 0<6 by decide)
  have hu:=znd h 3
  exact⟨⟨zbh (by simp only;omega) (by simp only;omega),zbh (by simp only;omega) (by simp only;omega),zbh (by simp only;omega) (by simp only;omega),zbh hu.1 (by have:=hu.2;simp only;omega),
   by simp only;omega,h2⟩,h1⟩
theorem zh8 {d:Int} {l:List NVote} (hd:0≤d∧d<8) (h:∀v∈l,v.ok):∀(n s:Nat) (acc:List Vote),s+n≤10→(∀v∈acc,v.ok)→(∀v∈zdv d l acc n s,v.ok)∧(zdv d l acc n s).length≤acc.length+n
 |0,s,acc,_,h2=>⟨h2,Nat.le_refl _⟩
 |n+1,s,acc,hs,h2=>by
  rw[zdv]
  cases hf:l.find? (ziW s)with
  |none=>
   obtain⟨q1,q2⟩:=zh8 hd h n (s+1) acc (by omega) h2
   exact⟨q1,by simp only;omega⟩
  |some v=>
   have hv:=h v (List.mem_of_find?_eq_some hf)
   have hm:=zk3 (x:=v.ballot) (m:=9) (by decide)
   obtain⟨q1,q2⟩:=zh8 hd h n (s+1) (acc++[⟨d+s,m8 v.ballot 9,zbG v.ns⟩]) (by omega) fun w hw=>by
    rcases List.mem_append.1 hw with hw|hw
    ·exact h2 w hw
    ·rw[List.mem_singleton]at hw
     subst hw
     exact⟨zbh (by simp only;omega) (by simp only;omega),zbh hm.1 (by have:=hm.2;simp only;omega),(zoW hv.2.2.2).1⟩
   rw[List.length_append,List.length_singleton]at q2
   exact⟨q1,by simp only;omega⟩
theorem zxM {i:Int} {t:NTold} (hi:0≤i∧i<7) (ht:t.ok):(zeH i t).ok:=by
 have h8:=zk3 (x:=t.done) (m:=8) (by decide)
 have h4:=zk3 (x:=t.view) (m:=4) (by decide)
 have h6:=zk3 (x:=t.slot) (m:=6) (by decide)
 obtain⟨_,_,_,hu,_,hv⟩:=ht
 obtain⟨q1,q2⟩:=zh8 (d:=m8 t.done 8) ⟨h8.1,by have:=h8.2;omega⟩ hv 9 1 [] (by decide) (fun v hv=>by cases hv)
 exact⟨zbh hi.1 (by simp only[zeH];omega),zbh h8.1 (by simp only[zeH];have:=h8.2;omega),zbh h4.1 (by simp only[zeH];have:=h4.2;omega),zbh h6.1 (by simp only[zeH];have:=h6.2;omega),
  zbh hu.1 (by have:=hu.2;simp only[zeH];omega),by simp only[zeH];simp only[List.length_nil]at q2;omega,q1⟩
theorem zxN (k:Nat):nameP (nameOf k)=true:=by
 unfold nameOf
 split<;>decide
theorem zAh (a b c:Int):zk1 (znn a b c).1 (znn a b c).2.1 (znn a b c).2.2=true:=by
 have h6:=Nat.mod_lt a.toNat (show 0<6 by decide)
 have h7:=Nat.mod_lt b.toNat (show 0<7 by decide)
 have hn:=zxN (c.toNat % 6)
 unfold zk1 znn
 simp only
 generalize a.toNat % 6=k at h6⊢
 generalize b.toNat % 7=m at h7⊢
 generalize nameOf (c.toNat % 6)=nm at hn⊢
 have hk:k=0∨k=1∨k=2∨k=3∨k=4∨k=5:=by omega
 rcases hk with rfl|rfl|rfl|rfl|rfl|rfl<;>simp[hn]<;>first|rfl|omega
theorem zrn {c q a b d:Int} (hq:u8 q):Req.may (zo6 c q a b d)=true:=by
 have h8:=Nat.mod_lt c.toNat (show 0<8 by decide)
 have h:=zAh a b d
 unfold Req.may
 simp only[zo6,h,Bool.and_true,Bool.and_eq_true,decide_eq_true_eq,zbE]
 have h1:=hq.1
 have h2:=hq.2
 refine⟨⟨⟨?_, ?_⟩, ?_⟩, ?_⟩
 all_goals exact decide_eq_true (by omega)
theorem zh9 {l:List Req}:∀(rest pre:List Req),l=pre++rest→(∀r∈l,Req.may r=true)→(l.map Req.client).Nodup→zdG l pre.length rest=true
 |[],_,_,_,_=>rfl
 |r::rest,pre,hl,hm,hn=>by
  have hr:Req.may r=true:=hm r (by rw[hl];simp)
  have ht:l.take pre.length=pre:=by rw[hl];simp
  rw[zdG,if_neg]
  ·have:=zh9 rest (pre++[r]) (by rw[hl];simp) hm hn
   rwa[List.length_append,List.length_singleton]at this
  ·rw[hr,ht]
   simp only[Bool.not_true,Bool.false_or,List.any_eq_true,not_exists,not_and,beq_iff_eq]
   intro o ho he
   rw[hl,List.map_append,List.map_cons,List.nodup_append]at hn
   exact hn.2.2 _ (List.mem_map_of_mem ho) _ (List.mem_cons_self ..) he
theorem zkF {l:List Int} (h:∀x∈l,u8 x):∀(n i:Nat) (acc:List Req),(∀r∈acc,Req.may r=true)→(acc.map Req.client).Nodup→
  (∀r∈zgN l acc n i,Req.may r=true)∧((zgN l acc n i).map Req.client).Nodup
 |0,i,acc,h1,h2=>⟨h1,h2⟩
 |n+1,i,acc,h1,h2=>by
  rw[zgN]
  split
  ·dsimp only
   split
   ·exact zkF h n (i+5) acc h1 h2
   ·rename_i hc
    refine zkF h n (i+5) _ (fun r hr=> ?_) ?_
    ·rcases List.mem_append.1 hr with hr|hr
     ·exact h1 r hr
     ·rw[List.mem_singleton]at hr
      subst hr
      exact zrn (znd h _)
    ·rw[List.map_append,List.nodup_append]
     refine⟨h2,by simp,fun a ha b hb=> ?_⟩
     obtain⟨o,ho,rfl⟩:=List.mem_map.1 ha
     simp only[List.map_cons,List.map_nil,List.mem_singleton]at hb
     subst hb
     intro he
     exact hc (List.any_eq_true.2 ⟨o,ho,by rw[he];simp⟩)
  ·exact⟨h1,h2⟩
theorem zcZ {n:Int} (h:0≤n) (h2:n<1000):bad n=false:=by
 unfold bad
 simp only[Bool.or_eq_false_iff,decide_eq_false_iff_not,zbE]
 omega
theorem zl4 {l:List Int} (h:∀x∈l,u8 x):Batch.may (zbG l)=true:=by
 unfold zbG
 split
 ·rfl
 ·obtain⟨h1,h2⟩:=zkF h l.length 4 [] (fun r hr=>by cases hr) (by simp)
  obtain⟨h3,_⟩:=zjs h l.length 4 [] (by decide) (fun r hr=>by cases hr)
  have h8:=Nat.mod_lt (l.getD 2 0).toNat (show 0<8 by decide)
  have h4:=Nat.mod_lt (l.getD 0 0).toNat (show 0<4 by decide)
  have h6:=Nat.mod_lt (l.getD 1 0).toNat (show 0<6 by decide)
  have hu:=znd h 3
  unfold Batch.may
  simp only
  rw[if_neg (by simp),if_neg]
  ·exact zh9 (l:=zgN l [] l.length 4) _ [] rfl h1 h2
  ·simp only[List.any_cons,List.any_nil,zcZ (show(0:Int)≤(((l.getD 2 0).toNat % 8:Nat):Int) by omega) (by omega),zcZ hu.1 (by have:=hu.2;omega),
    zcZ (show(0:Int)≤(((l.getD 0 0).toNat % 4:Nat):Int) by omega) (by omega),zcZ (show(0:Int)≤(((l.getD 1 0).toNat % 6:Nat):Int) by omega) (by omega)]
   simp
   omega
theorem zgI {d:Int} {l:List NVote}:∀(n s:Nat) (acc:List Vote),zdv d l acc n s=acc++zdv d l [] n s
 |0,s,acc=>by simp[zdv]
 |n+1,s,acc=>by
  rw[zdv,zdv]
  cases l.find? (ziW s)with
  |none=>simp only;exact zgI n (s+1) acc
  |some v=>
   simp only[List.nil_append]
   rw[zgI n (s+1) (acc++[_]),zgI n (s+1) [_],List.append_assoc]
theorem ziD {d:Int} {l:List NVote} (hd:0≤d∧d<8) (h:∀v∈l,v.ok):∀(n s:Nat) (last:Int),s+n≤10→last<d+s→zcQ d last (zdv d l [] n s)=true
 |0,s,last,_,_=>rfl
 |n+1,s,last,hs,hl=>by
  rw[zdv]
  cases hf:l.find? (ziW s)with
  |none=>simp only;exact ziD hd h n (s+1) last (by omega) (by omega)
  |some v=>
   have hv:=h v (List.mem_of_find?_eq_some hf)
   have hm:=zk3 (x:=v.ballot) (m:=9) (by decide)
   simp only[List.nil_append]
   rw[zgI,List.singleton_append,zcQ,if_neg]
   ·exact ziD hd h n (s+1) (d+s) (by omega) (by omega)
   ·simp only[zcZ (show(0:Int)≤d+s by omega) (by omega),zcZ hm.1 (by have:=hm.2;omega),zl4 hv.2.2.2]
    simp
    omega
theorem zoX {i:Int} {t:NTold} (hi:0≤i∧i<7) (ht:t.ok):Prom.may (zeH i t)=true:=by
 have h8:=zk3 (x:=t.done) (m:=8) (by decide)
 have h4:=zk3 (x:=t.view) (m:=4) (by decide)
 have h6:=zk3 (x:=t.slot) (m:=6) (by decide)
 obtain⟨_,_,_,hu,_,hv⟩:=ht
 have hd:0≤m8 t.done 8∧m8 t.done 8<8:=⟨h8.1,by have:=h8.2;omega⟩
 have q1:=ziD (d:=m8 t.done 8) hd hv 9 1 (m8 t.done 8) (by decide) (by omega)
 obtain⟨_,q2⟩:=zh8 (d:=m8 t.done 8) hd hv 9 1 [] (by decide) (fun v hv=>by cases hv)
 rw[List.length_nil]at q2
 have e:Prom.may (zeH i t)=if(decide (i<0)||decide (i≥7)||[m8 t.done 8,m8 t.view 4,m8 t.slot 6,t.time].any bad||decide (((zdv (m8 t.done 8) t.votes [] 9 1).length:Int)>9))=true then false else zcQ (m8 t.done 8) (m8 t.done 8) (zdv (m8 t.done 8) t.votes [] 9 1):=rfl
 rw[e,if_neg,q1]
 simp only[List.any_cons,List.any_nil,zcZ h8.1 (by have:=h8.2;omega),zcZ h4.1 (by have:=h4.2;omega),zcZ h6.1 (by have:=h6.2;omega),zcZ hu.1 (by have:=hu.2;omega)]
 simp
 omega
abbrev rds (bs:List Int) (p:Int):List RO:=rdr bs.length (zad bs) p
abbrev zsG (e:Int):Value:=zfE 177 e
abbrev Rr (α:Type):=Except Int (α×Int)
def rOf {α:Type} (x:α×Int×Int):Rr α:=if x.2.2=0 then .ok (x.1,x.2.1)else .error x.2.2
theorem zcb {α:Type} {x:α×Int×Int} {y:α×Int} (h:rOf x= .ok y):x.2.2=0∧y=(x.1,x.2.1):=by
 unfold rOf at h
 split at h
 ·rename_i h0;cases h;exact⟨h0,rfl⟩
 ·cases h
theorem zcc {α:Type} {x:α×Int×Int} {e:Int} (h:rOf x= .error e):x.2.2=e∧e≠0:=by
 unfold rOf at h
 split at h
 ·cases h
 ·rename_i h0;cases h;exact⟨rfl,h0⟩
def zaW (bs:List Int) (p:Int):Rr Int:=rOf (zfj bs p)
def zaU (bs:List Int) (p:Int):Rr Int:=rOf (zbf bs p)
def zd7 (bs:List Int) (p:Int):Rr ByteArray:=rOf (zcq bs p 12)
def zeV (bs:List Int) (p:Int):Rr Memo:=rOf (zfq bs p)
def za9 (bs:List Int) (p most:Int):Rr Int:=match zaU bs p with
 | .error e=> .error e
 | .ok (n,q)=>if n>most then .error 4 else .ok (n,q)
theorem zi8:CallOK prog 177 [.f (ai 0)] (fun r o=>r=[]∧o=[]):=by
 refine zh func177 results177 ntmps177 call177 ?_
 simp only[f177,Option.getD]
 exact zW0 trivial
theorem zho (e:Int) (h:e≠0):zbZ prog 177 [.f (ai e)] (zsG e):=by
 refine zhy func177 ntmps177 call177 ?_
 simp only[f177,Option.getD]
 have h1:(e !=0)=true:=by simpa using h
 exact zW0 (I h1 @zab)
theorem zd8 (bs:List Int) (p:Int) (h:BsOk bs) (hp:i64 p) {y:Int×Int} (hy:zaW bs p= .ok y):
  CallOK prog 144 [.obj (rds bs p)] (fun r o=>r=[ri y.1]∧o=[rds bs y.2]):=by
 obtain⟨h0,rfl⟩:=zcb hy
 refine zh func144 results144 ntmps144 call144 ?_
 simp only[f144,Option.getD]
 have h1:=zfr bs p h hp
 rw[h0]at h1
 exact zW trivial (I (h1) (zi8))
theorem zdh (bs:List Int) (p:Int) (h:BsOk bs) (hp:i64 p) {e:Int} (hy:zaW bs p= .error e):
  zbZ prog 144 [.obj (rds bs p)] (zsG e):=by
 obtain⟨h0,h2⟩:=zcc hy
 refine zhy func144 ntmps144 call144 ?_
 simp only[f144,Option.getD]
 have h1:=zfr bs p h hp
 rw[h0]at h1
 refine zL trivial (h1) ?_
 refine zdJ (zho e h2) rfl ?_
 first|refine zs @zab ?_|exact zt @zab
theorem zhp (bs:List Int) (p:Int) (h:BsOk bs) (hp:i64 p) {y:Int×Int} (hy:zaU bs p= .ok y):
  CallOK prog 179 [.obj (rds bs p)] (fun r o=>r=[ri y.1]∧o=[rds bs y.2]):=by
 obtain⟨h0,rfl⟩:=zcb hy
 refine zh func179 results179 ntmps179 call179 ?_
 simp only[f179,Option.getD]
 have h1:=zdL bs p h hp
 rw[h0]at h1
 exact zW trivial (I (h1) (zi8))
theorem zhq (bs:List Int) (p:Int) (h:BsOk bs) (hp:i64 p) {e:Int} (hy:zaU bs p= .error e):
  zbZ prog 179 [.obj (rds bs p)] (zsG e):=by
 obtain⟨h0,h2⟩:=zcc hy
 refine zhy func179 ntmps179 call179 ?_
 simp only[f179,Option.getD]
 have h1:=zdL bs p h hp
 rw[h0]at h1
 refine zL trivial (h1) ?_
 refine zdJ (zho e h2) rfl ?_
 first|refine zs @zab ?_|exact zt @zab
theorem zsY (bs:List Int) (p:Int) (h:BsOk bs) (hp:i64 p) {y:ByteArray×Int} (hy:zd7 bs p= .ok y):
  CallOK prog 199 [.obj (rds bs p)] (fun r o=>r=[.one (.d (sD y.1))]∧o=[rds bs y.2]):=by
 obtain⟨h0,rfl⟩:=zcb hy
 refine zh func199 results199 ntmps199 call199 ?_
 simp only[f199,Option.getD]
 have h1:=zhS bs p 12 h hp
 rw[h0]at h1
 exact zW trivial (I (h1) (zi8))
theorem zrA (bs:List Int) (p:Int) (h:BsOk bs) (hp:i64 p) {e:Int} (hy:zd7 bs p= .error e):
  zbZ prog 199 [.obj (rds bs p)] (zsG e):=by
 obtain⟨h0,h2⟩:=zcc hy
 refine zhy func199 ntmps199 call199 ?_
 simp only[f199,Option.getD]
 have h1:=zhS bs p 12 h hp
 rw[h0]at h1
 refine zL trivial (h1) ?_
 refine zdJ (zho e h2) rfl ?_
 first|refine zs @zab ?_|exact zt @zab
theorem zsZ (bs:List Int) (p:Int) (h:BsOk bs) (hp:i64 p) {y:Memo×Int} (hy:zeV bs p= .ok y):
  CallOK prog 181 [.obj (rds bs p)] (fun r o=>r=[zuk y.1]∧o=[rds bs y.2]):=by
 obtain⟨h0,rfl⟩:=zcb hy
 refine zh func181 results181 ntmps181 call181 ?_
 simp only[f181,Option.getD]
 have h1:=zgb bs p h hp
 rw[h0]at h1
 refine zL trivial (I (h1) (zi8)) ?_
 rfl
theorem zrB (bs:List Int) (p:Int) (h:BsOk bs) (hp:i64 p) {e:Int} (hy:zeV bs p= .error e):
  zbZ prog 181 [.obj (rds bs p)] (zsG e):=by
 obtain⟨h0,h2⟩:=zcc hy
 refine zhy func181 ntmps181 call181 ?_
 simp only[f181,Option.getD]
 have h1:=zgb bs p h hp
 rw[h0]at h1
 refine zL trivial (h1) ?_
 refine zdJ (zho e h2) rfl ?_
 first|refine zs @zab ?_|exact zt @zab
theorem zjD {bs:List Int} {p most:Int} {y:Int×Int} (hy:za9 bs p most= .ok y):zaU bs p= .ok y∧y.1≤most:=by
 unfold za9 at hy
 cases hz:zaU bs p with
 |error e=>rw[hz]at hy;cases hy
 |ok z=>
  rw[hz]at hy
  simp only at hy
  split at hy
  ·cases hy
  ·rename_i hgt
   cases hy
   exact⟨rfl,by simp only;omega⟩
theorem zgl {bs:List Int} {p most:Int} {e:Int} (hy:za9 bs p most= .error e):zaU bs p= .error e∨∃z,zaU bs p= .ok z∧z.1>most∧e=4:=by
 unfold za9 at hy
 cases hz:zaU bs p with
 |error e=>rw[hz]at hy;cases hy;exact .inl rfl
 |ok z=>
  rw[hz]at hy
  simp only at hy
  split at hy
  ·rename_i hgt;cases hy;exact .inr ⟨z,rfl,hgt,rfl⟩
  ·cases hy
theorem zgm (bs:List Int) (p most:Int) (h:BsOk bs) (hp:i64 p) {y:Int×Int} (hy:za9 bs p most= .ok y):
  CallOK prog 178 [.obj (rds bs p), .f (ai most)] (fun r o=>r=[ri y.1]∧o=[rds bs y.2]):=by
 obtain⟨hz,hle⟩:=zjD hy
 have h1:=zhp bs p h hp hz
 have h2:decide (y.1>most)=false:=by simpa using hle
 refine zh func178 results178 ntmps178 call178 ?_
 simp only[f178,Option.getD]
 refine zL0 trivial ?_
 refine zj (h1) ?_
 exact zW0 h2
theorem zfk (bs:List Int) (p most:Int) (h:BsOk bs) (hp:i64 p) {e:Int} (hy:za9 bs p most= .error e):
  zbZ prog 178 [.obj (rds bs p), .f (ai most)] (zsG e):=by
 refine zhy func178 ntmps178 call178 ?_
 simp only[f178,Option.getD]
 rcases zgl hy with hz|⟨z,hz,hgt,rfl⟩
 ·have h1:=zhq bs p h hp hz
  refine zL0 trivial ?_
  refine zp (rds bs p) (h1) ?_
  first|refine zs @zab ?_|exact zt @zab
 ·have h1:=zhp bs p h hp hz
  have h2:decide (z.1>most)=true:=by simpa using hgt
  refine zL0 trivial ?_
  refine zj (h1) ?_
  exact zW0 (I h2 @zab)
def zg0 (bs:List Int):Nat→Int→List Int→Rr (List Int)
 |0,p,acc=> .ok (acc,p)
 |n+1,p,acc=>match zaU bs p with
  | .error e=> .error e
  | .ok x=>zg0 bs n x.2 (acc++[x.1])
def zeU (bs:List Int) (p:Int):Rr Lk:=match zd7 bs p with
 | .error e=> .error e
 | .ok nm=>match zaU bs nm.2 with
  | .error e=> .error e
  | .ok hd=>match zaW bs hd.2 with
   | .error e=> .error e
   | .ok tk=>match za9 bs tk.2 3 with
    | .error e=> .error e
    | .ok n=>match zg0 bs n.1.toNat n.2 []with
     | .error e=> .error e
     | .ok l=> .ok (⟨nm.1,hd.1,tk.1,l.1⟩,l.2)
theorem zaw {bs:List Int} {p:Int} {y:Int×Int} (h:BsOk bs) (hy:zaW bs p= .ok y):i64 y.2:=by
 obtain⟨_,rfl⟩:=zcb hy
 exact zfD h.l zgc
theorem zbp {bs:List Int} {p:Int} {y:Int×Int} (h:BsOk bs) (hy:zaU bs p= .ok y):i64 y.2:=by
 obtain⟨_,rfl⟩:=zcb hy
 exact zfD h.l zeg
theorem zfK {bs:List Int} {p:Int} {y:Int×Int} (h:BsOk bs) (hy:zaU bs p= .ok y):0≤y.1∧y.1<256:=by
 obtain⟨_,rfl⟩:=zcb hy
 exact zkc h
theorem zif {bs:List Int} {p:Int} {y:ByteArray×Int} (h:BsOk bs) (hy:zd7 bs p= .ok y):i64 y.2:=by
 obtain⟨_,rfl⟩:=zcb hy
 exact zfD h.l (zlO h)
theorem zc7 {bs:List Int} {p m:Int} {y:Int×Int} (h:BsOk bs) (hy:za9 bs p m= .ok y):i64 y.2∧0≤y.1∧y.1≤m:=by
 obtain⟨h1,h2⟩:=zjD hy
 exact⟨zbp h h1,(zfK h h1).1,h2⟩
abbrev zAL (bs:List Int) (q:Int) (nx:Nat):Nat×RS:=(0,{next:=nx,l:=[some {e:=0,var:=true,fz:=false,bor:=true,sz:=0,cells:=[.d (.sl bs.length (zad bs)),di q]},none,none]})
abbrev zCj (k:Lk):RF:= .agg [.d (sD k.name), .d (iD k.holder), .d (iD k.token), .own 1 k.line.length (zaF k.line) false]
set_option maxHeartbeats 2000000 in
theorem zjB (bs:List Int) (p:Int) (h:BsOk bs) (hp:i64 p) (b:Bool) (y:Lk×Int) (e:Int) (hy:znk b y e (zeU bs p)):
  (b=true→CallOK prog 180 [.obj (rds bs p)] (fun r o=>r=[zCj y.1]∧o=[rds bs y.2]))∧(b=false→zbZ prog 180 [.obj (rds bs p)] (zsG e)):=by
 refine zhb func180 results180 ntmps180 call180 ?_
 simp only[f180,Option.getD]
 unfold zeU at hy
 cases e1:zd7 bs p with
 |error x=>
  rw[e1]at hy
  obtain⟨rfl,rfl⟩:=zaB hy
  have h1:=zrA bs p h hp e1
  refine zL0 trivial ?_
  refine zp (rds bs p) (h1) ?_
  first|refine zs (I @zan @zab) ?_|exact zt (I @zan @zab)
 |ok nm=>
 have h1:=zsY bs p h hp e1
 rw[e1]at hy
 simp only at hy
 refine zL0 trivial ?_
 refine zj (h1) ?_
 cases e2:zaU bs nm.2 with
 |error x=>
  rw[e2]at hy
  obtain⟨rfl,rfl⟩:=zaB hy
  have h2:=zhq bs _ h (zif h e1) e2
  refine zL0 trivial ?_
  refine zp (rds bs p) (h2) ?_
  first|refine zs (I @zan @zab) ?_|exact zt (I @zan @zab)
 |ok hd=>
 have h2:=zhp bs _ h (zif h e1) e2
 rw[e2]at hy
 simp only at hy
 refine zL0 trivial ?_
 refine zj (h2) ?_
 cases e3:zaW bs hd.2 with
 |error x=>
  rw[e3]at hy
  obtain⟨rfl,rfl⟩:=zaB hy
  have h3:=zdh bs _ h (zbp h e2) e3
  refine zL0 trivial ?_
  refine zp (rds bs p) (h3) ?_
  first|refine zs (I @zan @zab) ?_|exact zt (I @zan @zab)
 |ok tk=>
 have h3:=zd8 bs _ h (zbp h e2) e3
 rw[e3]at hy
 simp only at hy
 refine zL0 trivial ?_
 refine zj (h3) ?_
 cases e4:za9 bs tk.2 3 with
 |error x=>
  rw[e4]at hy
  obtain⟨rfl,rfl⟩:=zaB hy
  have h4:=zfk bs _ 3 h (zaw h e3) e4
  refine zL0 trivial ?_
  refine zp (rds bs p) (h4) ?_
  first|refine zs (I @zan @zab) ?_|exact zt (I @zan @zab)
 |ok n=>
 have h4:=zgm bs _ 3 h (zaw h e3) e4
 obtain⟨hn1,hn2,hn3⟩:=zc7 h e4
 rw[e4]at hy
 simp only at hy
 refine zL0 trivial ?_
 refine zj (h4) ?_
 refine zL0 trivial ?_
 refine zaf (τ:=Nat×Int×List Int×Nat) (fun t=>⟨(.one (.ptr ⟨0,0,0⟩ 0)::dd::ptq 2::ptq 3::zpe (ai n.1::ai t.1::zpe [])),[zAL bs t.2.1 t.2.2.2,(2,⟨2,[obq 1 [dS .empty,di 0,di 0, .d (.v (.slice none 0 0))],none,none,none,none]⟩),(3,⟨2,[obq 1 [dS nm.1,di hd.1,di tk.1, .own ⟨3,4,1⟩ 0 t.2.2.1.length],none,none,none,roq 1 1 (zaF t.2.2.1)]⟩),(21,⟨2,[]⟩),(22,⟨2,[]⟩)]⟩)
  (fun t=>t.1≤n.1.toNat∧i64 t.2.1∧t.2.2.1.length=t.1) (fun t=>zg0 bs (n.1.toNat - t.1) t.2.1 t.2.2.1) (fun t=>n.1.toNat - t.1) (0,n.2,[],5)
  ((Gh.nilF 3 3 1 rfl).trans (Gh.canon [0,2,3] [21,22] [0] zK rfl rfl)) ⟨Nat.zero_le _,hn1,rfl⟩ ?_
 intro⟨i,q,acc,nx⟩ ⟨hi0,hq,ha⟩ hF K hK
 simp only[Nat.sub_zero]at hi0 hq ha hF hK⊢
 rw[←hF]at hy
 refine zw ?_
 refine zaa (fun hlt=> ?_) (fun hge=> ?_)
 ·have hi:i<n.1.toNat:=by simp at hlt;omega
  have hw:=zai hi (by omega)
  have hst:n.1.toNat - i=(n.1.toNat - (i+1))+1:=by omega
  rw[hst,zg0]at hy
  cases hx:zaU bs q with
  |error x=>
   rw[hx]at hy
   obtain⟨rfl,rfl⟩:=zaB hy
   have hr:=zhq bs q h hq hx
   first|refine zs0 ?_|exact zt0
   refine zeL _ _ (zmj zcV mixed 3 [false,false,false,true,true,true,true,true] (zsG e) (fun g=> ?_) ?_)
   ·first|refine zs (I @zan @zab) ?_|exact zt (I @zan @zab)
   ·simp only[zph,zpi,zjN]
    refine zL0 trivial ?_
    exact zn (rds bs q) (hr)
  |ok x=>
   have hF2:zg0 bs (n.1.toNat - (i+1)) x.2 (acc++[x.1])=zg0 bs (n.1.toNat - i) q acc:=by rw[hst,zg0,hx]
   have hr:=zhp bs q h hq hx
   refine zL0 trivial ?_
   refine zj (hr) ?_
   refine zL0 @zaD ?_
   refine hK _ (i+1,x.2,acc++[x.1],nx+1) (Gh.canon [0,2,3] [] [0] (zk (I hw (I @List.length_append.{0} @List.length_singleton.{0}))) rfl (by simp only[List.length_append,List.length_singleton];rw[zii];rfl)) ⟨hi,zbp h hx,by simp only[List.length_append,List.length_singleton];omega⟩ hF2 (by simp only;omega)
 ·have hi:i=n.1.toNat:=by
   have:¬(i:Int)<n.1:=by simpa using hge
   omega
  rw[hi,Nat.sub_self,zg0]at hy
  obtain⟨rfl,rfl⟩:=zdX hy
  exact zW0 @zdW
theorem zsX (bs:List Int) (p:Int) (h:BsOk bs) (hp:i64 p) {y:Lk×Int} (hy:zeU bs p= .ok y):CallOK prog 180 [.obj (rds bs p)] (fun r o=>r=[zCj y.1]∧o=[rds bs y.2]):=
 (zjB bs p h hp true y 0 hy).1 rfl
theorem zrz (bs:List Int) (p:Int) (h:BsOk bs) (hp:i64 p) {e:Int} (hy:zeU bs p= .error e):zbZ prog 180 [.obj (rds bs p)] (zsG e):=
 (zjB bs p h hp false (⟨.empty,0,0,[]⟩,0) e hy).2 rfl
theorem zjC {bs:List Int} (h:BsOk bs):∀{n:Nat} {p:Int} {acc:List Int} {y:List Int×Int},i64 p→zg0 bs n p acc= .ok y→i64 y.2∧y.1.length=acc.length+n
 |0,p,acc,y,hp,hy=>by cases hy;exact⟨hp,rfl⟩
 |n+1,p,acc,y,hp,hy=>by
  rw[zg0]at hy
  cases hx:zaU bs p with
  |error x=>rw[hx]at hy;cases hy
  |ok x=>
   rw[hx]at hy
   have:=zjC h (zbp h hx) hy
   rw[List.length_append,List.length_singleton]at this
   exact⟨this.1,by omega⟩
theorem zld {bs:List Int} {p:Int} {y:ByteArray×Int} (hy:zd7 bs p= .ok y):y.1.size≤bs.length:=by
 obtain⟨_,rfl⟩:=zcb hy
 exact zlN
theorem zo9 {bs:List Int} (h:BsOk bs) {p:Int} {y:Lk×Int} (hy:zeU bs p= .ok y):i64 y.2∧y.1.line.length≤3∧y.1.name.size≤bs.length:=by
 unfold zeU at hy
 cases e1:zd7 bs p with
 |error x=>rw[e1]at hy;cases hy
 |ok nm=>
 rw[e1]at hy;simp only at hy
 cases e2:zaU bs nm.2 with
 |error x=>rw[e2]at hy;cases hy
 |ok hd=>
 rw[e2]at hy;simp only at hy
 cases e3:zaW bs hd.2 with
 |error x=>rw[e3]at hy;cases hy
 |ok tk=>
 rw[e3]at hy;simp only at hy
 cases e4:za9 bs tk.2 3 with
 |error x=>rw[e4]at hy;cases hy
 |ok n=>
 rw[e4]at hy;simp only at hy
 obtain⟨hn1,hn2,hn3⟩:=zc7 h e4
 cases e5:zg0 bs n.1.toNat n.2 []with
 |error x=>rw[e5]at hy;cases hy
 |ok l=>
 rw[e5]at hy;simp only at hy
 obtain⟨f1,f2⟩:=zjC h hn1 e5
 cases hy
 simp only[List.length_nil]at f2
 exact⟨f1,by simp only;omega,zld e1⟩
def zgK (bs:List Int) (p:Int):Rr Sess:=match zaU bs p with
 | .error e=> .error e
 | .ok c=>match zaW bs c.2 with
  | .error e=> .error e
  | .ok n=>match zaW bs n.2 with
   | .error e=> .error e
   | .ok r=> .ok (⟨c.1,n.1,r.1⟩,r.2)
def zaT {α:Type} (f:Int→Rr α):Nat→Int→List α→Rr (List α)
 |0,p,acc=> .ok (acc,p)
 |n+1,p,acc=>match f p with
  | .error e=> .error e
  | .ok x=>zaT f n x.2 (acc++[x.1])
def zdN (bs:List Int) (p:Int):Rr St:=match zaW bs p with
 | .error e=> .error e
 | .ok t=>match zaW bs t.2 with
  | .error e=> .error e
  | .ok u=>match zaW bs u.2 with
   | .error e=> .error e
   | .ok k=>match za9 bs k.2 5 with
    | .error e=> .error e
    | .ok n=>match zaT (zgK bs) n.1.toNat n.2 []with
     | .error e=> .error e
     | .ok ss=>match za9 bs ss.2 4 with
      | .error e=> .error e
      | .ok n2=>match zaT (zeU bs) n2.1.toNat n2.2 []with
       | .error e=> .error e
       | .ok ls=>match za9 bs ls.2 8 with
        | .error e=> .error e
        | .ok n3=>match zaT (zeV bs) n3.1.toNat n3.2 []with
         | .error e=> .error e
         | .ok ms=>if zdf ⟨t.1,u.1,k.1,ss.1,ls.1,ms.1⟩=true then .ok (⟨t.1,u.1,k.1,ss.1,ls.1,ms.1⟩,ms.2)else .error 4
theorem zel {α:Type} {f:Int→Rr α} {ok:α→Prop} (hf:∀p y,f p= .ok y→i64 y.2∧ok y.1):∀{n:Nat} {p:Int} {acc:List α} {y:List α×Int},i64 p→(∀x∈acc,ok x)→zaT f n p acc= .ok y→i64 y.2∧y.1.length=acc.length+n∧∀x∈y.1,ok x
 |0,p,acc,y,hp,ha,hy=>by cases hy;exact⟨hp,rfl,ha⟩
 |n+1,p,acc,y,hp,ha,hy=>by
  rw[zaT]at hy
  cases hx:f p with
  |error x=>rw[hx]at hy;cases hy
  |ok x=>
   rw[hx]at hy
   have:=zel hf (hf _ _ hx).1 (fun z hz=>by
    rcases List.mem_append.1 hz with hz|hz
    ·exact ha z hz
    ·simp at hz;subst hz;exact(hf _ _ hx).2) hy
   rw[List.length_append,List.length_singleton]at this
   exact⟨this.1,by omega,this.2.2⟩
theorem zjA {bs:List Int} (h:BsOk bs) {p:Int} {y:Memo×Int} (hy:zeV bs p= .ok y):i64 y.2∧zcu y.1.reply:=by
 obtain⟨h0,rfl⟩:=zcb hy
 simp only
 unfold zfq at h0⊢
 simp only at h0⊢
 split at h0
 ·rename_i h1;exact absurd h0 h1
 rename_i h1
 rw[if_neg h1]
 split at h0
 ·rename_i h2;exact absurd h0 h2
 rename_i h2
 rw[if_neg h2]
 split at h0
 ·rename_i h3;exact absurd h0 h3
 rename_i h3
 rw[if_neg h3]
 split at h0
 ·exact absurd h0 (by decide)
 rename_i h4
 rw[if_neg h4]
 obtain⟨g1,g2⟩:=ziR h (p:=(zfj bs (zbf bs p).2.1).2.1)
 exact⟨zfD h.l g1,g2⟩
set_option maxHeartbeats 4000000 in
theorem ziJ (bs:List Int) (p:Int) (h:BsOk bs) (hp:i64 p) (b:Bool) (y:St×Int) (e:Int) (hy:znk b y e (zdN bs p)):
  (b=true→CallOK prog 145 [.obj (rds bs p)] (fun r o=>r=[y.1.rf]∧o=[rds bs y.2]))∧(b=false→zbZ prog 145 [.obj (rds bs p)] (zsG e)):=by
 refine zhb func145 results145 ntmps145 call145 ?_
 simp only[f145,Option.getD]
 unfold zdN at hy
 cases e1:zaW bs p with
 |error x=>
  rw[e1]at hy
  obtain⟨rfl,rfl⟩:=zaB hy
  have hr:=zdh bs p h hp e1
  refine zL0 trivial ?_
  refine zp (rds bs p) (hr) ?_
  first|refine zs (I @zan @zab) ?_|exact zt (I @zan @zab)
 |ok t=>
 have he1:=zd8 bs p h hp e1
 rw[e1]at hy
 simp only at hy
 refine zL0 trivial ?_
 refine zj (he1) ?_
 cases e2:zaW bs t.2 with
 |error x=>
  rw[e2]at hy
  obtain⟨rfl,rfl⟩:=zaB hy
  have hr:=zdh bs _ h (zaw h e1) e2
  refine zL0 trivial ?_
  refine zp (rds bs p) (hr) ?_
  first|refine zs (I @zan @zab) ?_|exact zt (I @zan @zab)
 |ok u=>
 have he2:=zd8 bs _ h (zaw h e1) e2
 rw[e2]at hy
 simp only at hy
 refine zL0 trivial ?_
 refine zj (he2) ?_
 cases e3:zaW bs u.2 with
 |error x=>
  rw[e3]at hy
  obtain⟨rfl,rfl⟩:=zaB hy
  have hr:=zdh bs _ h (zaw h e2) e3
  refine zL0 trivial ?_
  refine zp (rds bs p) (hr) ?_
  first|refine zs (I @zan @zab) ?_|exact zt (I @zan @zab)
 |ok k=>
 have he3:=zd8 bs _ h (zaw h e2) e3
 rw[e3]at hy
 simp only at hy
 refine zL0 trivial ?_
 refine zj (he3) ?_
 cases e4:za9 bs k.2 5 with
 |error x=>
  rw[e4]at hy
  obtain⟨rfl,rfl⟩:=zaB hy
  have hr:=zfk bs _ 5 h (zaw h e3) e4
  refine zL0 trivial ?_
  refine zp (rds bs p) (hr) ?_
  first|refine zs (I @zan @zab) ?_|exact zt (I @zan @zab)
 |ok n=>
 have he4:=zgm bs _ 5 h (zaw h e3) e4
 rw[e4]at hy
 simp only at hy
 refine zL0 trivial ?_
 refine zj (he4) ?_
 obtain⟨hn1,hn2,hn3⟩:=zc7 h e4
 refine zL0 trivial ?_
 refine zaf (τ:=Nat×Int×List Sess×Nat) (fun a=>⟨(.one (.ptr ⟨0,0,0⟩ 0)::dd::ptq 2::ptq 3::zsH (ai n.1::ai a.1::dq7 (zec []))),[zAL bs a.2.1 a.2.2.2,(2,⟨2,[obq 1 [di 0,di 0,di 0, .d (.v (.slice none 0 0)), .d (.v (.slice none 0 0)), .d (.v (.slice none 0 0))],none,none,none,none,none,none]⟩),(3,⟨2,[obq 1 [di t.1,di u.1,di k.1, .own ⟨3,4,1⟩ 0 a.2.2.1.length, .d (.v (.slice none 0 0)), .d (.v (.slice none 0 0))],none,none,none,roq 1 3 (za1 a.2.2.1),none,none]⟩),(4,⟨2,[]⟩),(31,⟨2,[]⟩),(32,⟨2,[]⟩)]⟩)
  (fun a=>a.1≤n.1.toNat∧i64 a.2.1∧a.2.2.1.length=a.1) (fun a=>zaT (zgK bs) (n.1.toNat - a.1) a.2.1 a.2.2.1) (fun a=>n.1.toNat - a.1) (0,n.2,[],5)
  ((Gh.nilF 3 3 3 rfl).trans (Gh.canon [0,2,3] [4,31,32] [0] zK rfl rfl)) ⟨Nat.zero_le _,hn1,rfl⟩ ?_
 intro⟨i,q,acc,nx⟩ ⟨hi0,hq,ha⟩ hF K hK
 simp only[Nat.sub_zero]at hi0 hq ha hF hK⊢
 rw[←hF]at hy
 refine zw ?_
 refine zaa (fun hlt=> ?_) (fun hge=> ?_)
 ·have hi:i<n.1.toNat:=by simp at hlt;omega
  have hw:=zai hi (by omega)
  have hst:n.1.toNat - i=(n.1.toNat - (i+1))+1:=by omega
  rw[hst,zaT,zgK]at hy
  cases x1:zaU bs q with
  |error x=>
   rw[x1]at hy
   obtain⟨rfl,rfl⟩:=zaB hy
   have hr:=zhq bs q h hq x1
   refine zL0 trivial ?_
   refine zp (rds bs p) (hr) ?_
   first|refine zs (I @zan @zab) ?_|exact zt (I @zan @zab)
  |ok c=>
  rw[x1]at hy
  simp only at hy
  have hr1:=zhp bs q h hq x1
  refine zL0 trivial ?_
  refine zj (hr1) ?_
  cases x2:zaW bs c.2 with
  |error x=>
   rw[x2]at hy
   obtain⟨rfl,rfl⟩:=zaB hy
   have hr:=zdh bs _ h (zbp h x1) x2
   refine zL0 trivial ?_
   refine zp (rds bs p) (hr) ?_
   first|refine zs (I @zan @zab) ?_|exact zt (I @zan @zab)
  |ok m=>
  rw[x2]at hy
  simp only at hy
  have hr2:=zd8 bs _ h (zbp h x1) x2
  refine zL0 trivial ?_
  refine zj (hr2) ?_
  cases x3:zaW bs m.2 with
  |error x=>
   rw[x3]at hy
   obtain⟨rfl,rfl⟩:=zaB hy
   have hr:=zdh bs _ h (zaw h x2) x3
   refine zL0 trivial ?_
   refine zp (rds bs p) (hr) ?_
   first|refine zs (I @zan @zab) ?_|exact zt (I @zan @zab)
  |ok r=>
  have hr3:=zd8 bs _ h (zaw h x2) x3
  have hF2:zaT (zgK bs) (n.1.toNat - (i+1)) r.2 (acc++[⟨c.1,m.1,r.1⟩])=zaT (zgK bs) (n.1.toNat - i) q acc:=by rw[hst,zaT,zgK,x1];simp only;rw[x2];simp only;rw[x3]
  refine zL0 trivial ?_
  refine zj (hr3) ?_
  refine zL0 @zax ?_
  refine hK _ (i+1,r.2,acc++[⟨c.1,m.1,r.1⟩],nx+3) (Gh.canon [0,2,3] [] [0] (zk (I hw (I @List.length_append.{0} @List.length_singleton.{0}))) rfl (by simp only[List.length_append,List.length_singleton];rw[zeZ];rfl)) ⟨hi,zaw h x3,by simp only[List.length_append,List.length_singleton];omega⟩ hF2 (by simp only;omega)
 ·have hi:i=n.1.toNat:=by
   have:¬(i:Int)<n.1:=by simpa using hge
   omega
  rw[hi,Nat.sub_self,zaT]at hy
  simp only at hy
  clear hK hF
  have hpq:=hq
  cases e5:za9 bs q 4 with
  |error x=>
   rw[e5]at hy
   obtain⟨rfl,rfl⟩:=zaB hy
   have hr:=zfk bs _ 4 h hq e5
   refine zL0 trivial ?_
   refine zp (rds bs p) (hr) ?_
   first|refine zs (I @zan @zab) ?_|exact zt (I @zan @zab)
  |ok n2=>
  have hr5:=zgm bs _ 4 h hq e5
  obtain⟨hn4,hn5,hn6⟩:=zc7 h e5
  rw[e5]at hy
  simp only at hy
  refine zL0 trivial ?_
  refine zj (hr5) ?_
  refine zL0 trivial ?_
  refine zaf (τ:=Nat×Int×List Lk×Nat) (fun a=>⟨(.one (.ptr ⟨0,0,0⟩ 0)::dd::ptq 2::ptq 3::zx7 (ai n2.1::ai a.1::zAS [])),[zAL bs a.2.1 a.2.2.2,(2,⟨2,[obq 1 [di 0,di 0,di 0, .d (.v (.slice none 0 0)), .d (.v (.slice none 0 0)), .d (.v (.slice none 0 0))],none,none,none,none,none,none]⟩),(3,⟨2,[obq 1 [di t.1,di u.1,di k.1, .own ⟨3,4,1⟩ 0 acc.length, .own ⟨3,5,1⟩ 0 a.2.2.1.length, .d (.v (.slice none 0 0))],none,none,none,roq 1 3 (za1 acc),roq 1 4 (zaj a.2.2.1),none]⟩),(4,⟨2,[]⟩),(31,⟨2,[]⟩),(32,⟨2,[]⟩),(42,⟨2,[]⟩),(43,⟨2,[]⟩),(44,⟨2,[]⟩)]⟩)
   (fun a=>a.1≤n2.1.toNat∧i64 a.2.1∧a.2.2.1.length=a.1∧∀k∈a.2.2.1,k.line.length≤3∧k.name.size≤bs.length) (fun a=>zaT (zeU bs) (n2.1.toNat - a.1) a.2.1 a.2.2.1) (fun a=>n2.1.toNat - a.1) (0,n2.2,[],nx+1)
   ((Gh.nilF 3 4 4 rfl).trans (Gh.canon [0,2,3] [42,43,44] [0] zK rfl rfl)) ⟨Nat.zero_le _,hn4,rfl,by simp⟩ ?_
  intro⟨j,q2,ls,nx2⟩ ⟨hj0,hq2,hl,hlk⟩ hF K hK
  simp only[Nat.sub_zero]at hj0 hq2 hl hlk hF hK⊢
  rw[←hF]at hy
  refine zw ?_
  refine zaa (fun hlt2=> ?_) (fun hge2=> ?_)
  ·have hj:j<n2.1.toNat:=by simp at hlt2;omega
   have hw:=zai hj (by omega)
   have hst:n2.1.toNat - j=(n2.1.toNat - (j+1))+1:=by omega
   rw[hst,zaT]at hy
   cases x1:zeU bs q2 with
   |error x=>
    rw[x1]at hy
    obtain⟨rfl,rfl⟩:=zaB hy
    have hr:=zrz bs q2 h hq2 x1
    first|refine zs0 ?_|exact zt0
    refine zeL _ _ (zmj zcV mixed 3 [false,false,false,true,true,true,true,true] (zsG e) (fun g=> ?_) ?_)
    ·first|refine zs (I @zan @zab) ?_|exact zt (I @zan @zab)
    ·simp only[zph,zpi,zjN]
     refine zL0 trivial ?_
     exact zn (rds bs q) (hr)
   |ok x=>
   have hr1:=zsX bs q2 h hq2 x1
   obtain⟨g1,g2,g3⟩:=zo9 h x1
   have hF2:zaT (zeU bs) (n2.1.toNat - (j+1)) x.2 (ls++[x.1])=zaT (zeU bs) (n2.1.toNat - j) q2 ls:=by rw[hst,zaT,x1]
   refine zL0 trivial ?_
   refine zj (hr1) ?_
   have htl:(zaF x.1.line).take x.1.line.length=zaF x.1.line:=zjJ
   refine zL0 (I @zah htl) ?_
   refine hK _ (j+1,x.2,ls++[x.1],nx2+1) (Gh.canon [0,2,3] [] [0] (zk (I hw (I @List.length_append.{0} @List.length_singleton.{0}))) rfl (by simp only[List.length_append,List.length_singleton];rw[zgG];rfl)) ⟨hj,g1,by simp only[List.length_append,List.length_singleton];omega, ?_⟩ hF2 (by simp only;omega)
   intro k hk
   rcases List.mem_append.1 hk with hk|hk
   ·exact hlk k hk
   ·simp at hk;subst hk;exact⟨g2,g3⟩
  ·have hj:j=n2.1.toNat:=by
    have:¬(j:Int)<n2.1:=by simpa using hge2
    omega
   rw[hj,Nat.sub_self,zaT]at hy
   simp only at hy
   clear hK hF
   cases e6:za9 bs q2 8 with
   |error x=>
    rw[e6]at hy
    obtain⟨rfl,rfl⟩:=zaB hy
    have hr:=zfk bs _ 8 h hq2 e6
    refine zL0 trivial ?_
    refine zp (rds bs p) (hr) ?_
    first|refine zs (I @zan @zab) ?_|exact zt (I @zan @zab)
   |ok n3=>
   have hr6:=zgm bs _ 8 h hq2 e6
   obtain⟨hn7,hn8,hn9⟩:=zc7 h e6
   rw[e6]at hy
   simp only at hy
   refine zL0 trivial ?_
   refine zj (hr6) ?_
   refine zL0 trivial ?_
   refine zaf (τ:=Nat×Int×List Memo×Nat) (fun a=>⟨(.one (.ptr ⟨0,0,0⟩ 0)::dd::ptq 2::ptq 3::dq4 (zec (ai n3.1::ai a.1::zAQ []))),[zAL bs a.2.1 a.2.2.2,(2,⟨2,[obq 1 [di 0,di 0,di 0, .d (.v (.slice none 0 0)), .d (.v (.slice none 0 0)), .d (.v (.slice none 0 0))],none,none,none,none,none,none]⟩),(3,⟨2,[obq 1 [di t.1,di u.1,di k.1, .own ⟨3,4,1⟩ 0 acc.length, .own ⟨3,5,1⟩ 0 ls.length, .own ⟨3,6,1⟩ 0 a.2.2.1.length],none,none,none,roq 1 3 (za1 acc),roq 1 4 (zaj ls),roq 1 6 (zaM a.2.2.1)]⟩),(4,⟨2,[]⟩),(31,⟨2,[]⟩),(32,⟨2,[]⟩),(42,⟨2,[]⟩),(43,⟨2,[]⟩),(44,⟨2,[]⟩),(54,⟨2,[]⟩),(55,⟨2,[]⟩),(56,⟨2,[]⟩)]⟩)
    (fun a=>a.1≤n3.1.toNat∧i64 a.2.1∧a.2.2.1.length=a.1∧∀m∈a.2.2.1,zcu m.reply) (fun a=>zaT (zeV bs) (n3.1.toNat - a.1) a.2.1 a.2.2.1) (fun a=>n3.1.toNat - a.1) (0,n3.2,[],nx2+1)
    ((Gh.nilF 3 5 6 rfl).trans (Gh.canon [0,2,3] [54,55,56] [0] zK rfl rfl)) ⟨Nat.zero_le _,hn7,rfl,by simp⟩ ?_
   intro⟨m,q3,ms,nx3⟩ ⟨hm0,hq3,hml,hmk⟩ hF K hK
   simp only[Nat.sub_zero]at hm0 hq3 hml hmk hF hK⊢
   rw[←hF]at hy
   refine zw ?_
   refine zaa (fun hlt3=> ?_) (fun hge3=> ?_)
   ·have hm:m<n3.1.toNat:=by simp at hlt3;omega
    have hw:=zai hm (by omega)
    have hst:n3.1.toNat - m=(n3.1.toNat - (m+1))+1:=by omega
    rw[hst,zaT]at hy
    cases x1:zeV bs q3 with
    |error x=>
     rw[x1]at hy
     obtain⟨rfl,rfl⟩:=zaB hy
     have hr:=zrB bs q3 h hq3 x1
     first|refine zs0 ?_|exact zt0
     refine zeL _ _ (zmj zcV mixed 3 [false,false,false,true,true,true,true,true] (zsG e) (fun g=> ?_) ?_)
     ·first|refine zs (I @zan @zab) ?_|exact zt (I @zan @zab)
     ·simp only[zph,zpi,zjN]
      refine zL0 trivial ?_
      exact zn (rds bs q) (hr)
    |ok x=>
    have hr1:=zsZ bs q3 h hq3 x1
    obtain⟨g1,g2⟩:=zjA h x1
    have hF2:zaT (zeV bs) (n3.1.toNat - (m+1)) x.2 (ms++[x.1])=zaT (zeV bs) (n3.1.toNat - m) q3 ms:=by rw[hst,zaT,x1]
    refine zL0 trivial ?_
    refine zj (hr1) ?_
    refine zL0 @zaC ?_
    refine hK _ (m+1,x.2,ms++[x.1],nx3+1) (Gh.canon [0,2,3] [] [0] (zk (I hw (I @List.length_append.{0} @List.length_singleton.{0}))) rfl (by simp only[List.length_append,List.length_singleton];rw[zen];rfl)) ⟨hm,g1,by simp only[List.length_append,List.length_singleton];omega, ?_⟩ hF2 (by simp only;omega)
    intro k hk
    rcases List.mem_append.1 hk with hk|hk
    ·exact hmk k hk
    ·simp at hk;subst hk;exact g2
   ·have hm:m=n3.1.toNat:=by
     have:¬(m:Int)<n3.1:=by simpa using hge3
     omega
    rw[hm,Nat.sub_self,zaT]at hy
    simp only at hy
    clear hK hF
    have hbl:=h.l
    have hri:=zmK ⟨t.1,u.1,k.1,acc,ls,ms⟩ ⟨by simp only;omega,by simp only;omega,by simp only;omega,fun k hk=>⟨by have:=(hlk k hk).1;omega,by have:=(hlk k hk).2;omega⟩,hmk⟩
    cases hR:zdf ⟨t.1,u.1,k.1,acc,ls,ms⟩
    ·rw[hR]at hri hy
     rw[if_neg (by simp)]at hy
     obtain⟨rfl,rfl⟩:=zaB hy
     exact zW (I @zan (I @zab (I @zdO (I @zaI @zcJ)))) (hri)
    ·rw[hR]at hri hy
     rw[if_pos rfl]at hy
     obtain⟨rfl,rfl⟩:=zdX hy
     refine zL (I @zdW (I @zdO (I @zaI @zcJ))) (hri) ?_
     rfl
abbrev zfC:Value:= .slice none 0 0
def szS (k:Nat):Nat:=if k=4 then 6 else 1
def nwS (x:Value) (k:Nat):List Value:=if k=4 then [.int .i64 0, .int .i64 0, .int .i64 0,zfC,zfC,zfC]else if k=5 then [.int .i64 0]else [codeOf x]
theorem zEY {l:List Value} (h:l.length=9):∃a b c d e f g i j,l=[a,b,c,d,e,f,g,i,j]:=by
 match l,h with
 |[a,b,c,d,e,f,g,i,j],_=>exact⟨a,b,c,d,e,f,g,i,j,rfl⟩
theorem zwb:(prog.info? 177).bind (·.zero)=some (.agg #[.int .i64 0]):=by kernel_rfl
def dSt (bs:List Int) (p:Int):St×Int×Int:=match zdN bs p with
 | .ok y=>(y.1,y.2,0)
 | .error e=>(st0,0,e)
end Go.Proofs.YtliimajkpggbhaaGreat
