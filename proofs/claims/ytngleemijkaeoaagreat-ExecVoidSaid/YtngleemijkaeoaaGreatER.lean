import Derived.Test.YtngleemijkaeoaaGreatX
namespace Go.Proofs.YtngleemijkaeoaaGreat
open Go.Pk
set_option maxRecDepth 100000
set_option linter.unusedSimpArgs false
set_option linter.unusedVariables false
theorem zdF (v a:Int):CallOK Tryz.prog 99 [.f (ai v), .f (ai a)] (fun r o=>r=[rb (decide (v≥a)&&decide (v≤2305843009213693952))]∧o=[]):=by
 refine zac zaq mixed (T:=Ty) (n:=12) Tryz.func99 (c:=Tryz.f99.body.getD .skip) rfl Tryz.results99 Tryz.ntmps99 Tryz.call99 ?_
 simp only[Tryz.f99,Option.getD]
 repeat'(first|refine zq0 ?_|exact zd0|(refine zaa ?_ ?_<;>intro hb)|(refine And.intro ?_ ?_;exact zI)|(refine And.intro ?_ ?_<;>intro hg)|exact zC|fail)
theorem ziz (s:ByteArray) (hs:s.size<2^62):CallOK Tryz.prog 132 [.f (ast s)] (fun r o=>r=[rb (nameP s)]∧o=[]):=by
 refine zac zaq mixed (T:=Ty) (n:=41) Tryz.func132 (c:=Tryz.f132.body.getD .skip) rfl Tryz.results132 Tryz.ntmps132 Tryz.call132 ?_
 simp only[Tryz.f132,Option.getD]
 refine zw ?_
 refine zaa (fun hb=> ?_) (fun hb=> ?_)
 ·refine zw ?_
  have:nameP s=false:=by
   unfold nameP
   rw[Bool.and_eq_false_iff];right
   simp only[Bool.or_eq_true,decide_eq_true_eq]at hb
   simp only[Bool.and_eq_false_iff,decide_eq_false_iff_not]
   omega
  rw[this]
 have hsz:(decide ((s.size:Int)≥1)&&decide ((s.size:Int)≤12))=true:=by
  simp only[Bool.or_eq_false_iff,decide_eq_false_iff_not]at hb
  simp only[Bool.and_eq_true,decide_eq_true_eq]
  omega
 refine zw ?_
 refine ziu Ty Tryz.prog (τ:=Nat) (fun i=>⟨[ast s,dd,ab false,ai i,dd,dd,dd,dd,dd,dd,dd,dd,dd,dd,dd,dd,dd,dd,dd,dd,dd,dd,dd,dd,dd,dd,dd,dd,dd,dd,dd,dd,dd,dd,dd,dd,dd,dd,dd,dd,dd],[]⟩) (fun i=>i≤s.size∧∀j,j<i→zfh (s.data.getD j 0)=true) (fun i=>s.size - i) 0 ?_ ⟨Nat.zero_le _,fun j hj=>absurd hj (Nat.not_lt_zero j)⟩ ?_
 ·refine Gh.fgt ?_
  simp only[zaP,zaQ,zbc,Int.natCast_zero]
 intro i ⟨h1,h2⟩ K hK
 refine zw ?_
 refine zaa (fun hlt=> ?_) (fun hge=> ?_)
 ·have hi:i<s.size:=by simpa using hlt
  refine zw ?_
  refine⟨⟨Int.natCast_nonneg i,by omega⟩, ?_⟩
  refine⟨zof ?_, ?_⟩
  ·simp_all;omega
  have hok:zfh (s.data.getD i 0)= !((decide (((s.data.getD i 0).toNat:Int)<97)||decide (((s.data.getD i 0).toNat:Int)>122))&&(decide (((s.data.getD i 0).toNat:Int)<48)||decide (((s.data.getD i 0).toNat:Int)>57))&&(((s.data.getD i 0).toNat:Int) !=45)):=rfl
  generalize ((s.data.getD i 0).toNat:Int)=c at hok⊢
  refine zaa (fun hb2=> ?_) (fun hb2=> ?_)
  ·refine zw ?_
   have hn:nameP s=false:=by
    unfold nameP
    rw[show((List.range s.size).all fun j=>zfh (s.data.getD j 0))=false from List.all_eq_false.2 ⟨i,List.mem_range.2 hi,by rw[hok];revert hb2;simp;omega⟩,Bool.false_and]
   rw[hn]
  ·refine zw ?_
   refine hK _ (i+1) (Gh.fgt ?_) ⟨hi,fun j hj=> ?_⟩ (by omega)
   ·simp only[zar hi (by omega),zaP,zaQ,zbc]
   ·rcases Nat.lt_or_ge j i with h|h
    ·exact h2 j h
    ·rw[show j=i from by omega,hok];revert hb2;simp;omega
 ·refine zw ?_
  have hi:i=s.size:=by
   have:¬(i:Int)<s.size:=by simpa using hge
   omega
  have hn:nameP s=true:=by
   unfold nameP
   rw[show((List.range s.size).all fun j=>zfh (s.data.getD j 0))=true from List.all_eq_true.2 fun j hj=>h2 j (by rw[hi];exact List.mem_range.1 hj),Bool.true_and,hsz]
  rw[hn]
theorem zon (k n:Int) (s:ByteArray) (hs:s.size<2^62):CallOK Tryz.prog 100 [.f (.agg [di k,di n,dS s])] (fun r o=>r=[rb (zjW k n s)]∧o=[]):=by
 refine zac zaq mixed (T:=Ty) (n:=38) Tryz.func100 (c:=Tryz.f100.body.getD .skip) rfl Tryz.results100 Tryz.ntmps100 Tryz.call100 ?_
 simp only[Tryz.f100,Option.getD]
 repeat'(first|with_reducible refine zab _ _ ?_|rw[zak]|simp only[zB,Nat.reduceSub,Nat.reduceEqDiff,Nat.reduceAdd,Nat.reduceMul,Nat.reduceLeDiff,Nat.reduceLT,Nat.reduceBEq,reduceCtorEq]|((first|((try refine zaz ?_);apply zaC)|(apply zaB;intro _));(solve|exact(ziz _ hs)|exact(zdF _ _)|(refine CallOK.le (ziz _ hs) ?_;exact zM)|(refine CallOK.le (zdF _ _) ?_;exact zM)|fail);try case hn=>rfl)|refine zal ?_|refine zaa (fun hb=> ?_) (fun hb=> ?_)|(refine And.intro ?_ ?_;exact zI)|refine And.intro (fun hg=> ?_) (fun hg=> ?_)|exact zC|fail)
 all_goals refine congrArg (fun b=>[rb b]) ?_
 all_goals simp only[beq_iff_eq,beq_eq_false_iff_ne,ne_eq]at*
 all_goals first
  |(exfalso;omega)
  |(subst_vars;unfold zjW;generalize (s.toList==(⟨#[]⟩:ByteArray).toList)=q;generalize nameP s=p;cases q<;>cases p<;>simp;done)
  |(have e:(decide (k<1)||decide (k>6))=true:=(by simp;omega);unfold zjW;rw[if_pos e])
theorem zfD (r:Req) (hr:r.ok):CallOK Tryz.prog 63 [.f (.agg (r.enc.map C.d))] (fun x o=>x=[rb (Req.may r)]∧o=[]):=by
 refine zac zaq mixed (T:=Ty) (n:=21) Tryz.func63 (c:=Tryz.f63.body.getD .skip) rfl Tryz.results63 Tryz.ntmps63 Tryz.call63 ?_
 simp only[Tryz.f63,Option.getD]
 repeat'(first|with_reducible refine zab _ _ ?_|rw[zak]|simp only[zB,Nat.reduceSub,Nat.reduceEqDiff,Nat.reduceAdd,Nat.reduceMul,Nat.reduceLeDiff,Nat.reduceLT,Nat.reduceBEq,reduceCtorEq]|((first|((try refine zaz ?_);apply zaC)|(apply zaB;intro _));(solve|exact(zon _ _ _ hr.2.2.2.2)|exact(zdF _ _)|(refine CallOK.le (zon _ _ _ hr.2.2.2.2) ?_;exact zM)|(refine CallOK.le (zdF _ _) ?_;exact zM)|fail);try case hn=>rfl)|refine zal ?_|refine zaa (fun hb=> ?_) (fun hb=> ?_)|(refine And.intro ?_ ?_;exact zI)|refine And.intro (fun hg=> ?_) (fun hg=> ?_)|exact zC|fail)
 simp[Req.may,Bool.and_assoc]
theorem zs3:∀(a b:List UInt8),(Go.Op.bytesLess a b||a==b)= !(Go.Op.bytesLess b a)
 |[],[]=>rfl
 |[],y::ys=>rfl
 |x::xs,[]=>rfl
 |x::xs,y::ys=>by
  have ih:=zs3 xs ys
  rw[Go.Op.bytesLess,Go.Op.bytesLess]
  rw[show((x::xs:List UInt8)==y::ys)=(x==y&&xs==ys) from rfl]
  have htri:x<y∨x=y∨y<x:=by
   rcases Nat.lt_trichotomy x.toNat y.toNat with h|h|h
   ·exact .inl (UInt8.lt_iff_toNat_lt.2 h)
   ·exact .inr (.inl (UInt8.toNat_inj.1 h))
   ·exact .inr (.inr (UInt8.lt_iff_toNat_lt.2 h))
  rcases htri with h|h|h
  ·have h2:¬y<x:=UInt8.lt_asymm h
   have h3:(y==x)=false:=by simp;intro e;subst e;exact absurd h (UInt8.lt_irrefl _)
   simp[h,h2,h3]
  ·subst h
   have h2:¬x<x:=UInt8.lt_irrefl _
   simp only[h2,decide_false,Bool.false_or,beq_self_eq_true,Bool.true_and]
   exact ih
  ·have h2:¬x<y:=UInt8.lt_asymm h
   have h3:(x==y)=false:=by simp;intro e;subst e;exact absurd h (UInt8.lt_irrefl _)
   simp[h,h2,h3]
def zpY (r:Reply):Bool:=decide (r.code<0)||decide (r.code>12)|| !(decide (r.session≥0)&&decide (r.session≤2305843009213693952))||decide (r.ahead<0)||decide (r.ahead>3)||decide ((r.held.length:Int)>4)||r.session==0&&decide ((r.held.length:Int)>0)
theorem zgT (r:Reply):zcD r=(!(zpY r)&&zbT (zcp r.held) 0 r.held):=by
 have h1:(decide (r.session≥0)&&decide (r.session≤2305843009213693952))= !(decide (r.session<0)||decide (r.session>zaS)):=by
  have hH:zaS=2305843009213693952:=rfl
  rw[Bool.eq_iff_iff];simp[hH]
 unfold zcD zpY
 rw[h1]
 generalize decide (r.code<0)=a1
 generalize decide (r.code>12)=a2
 generalize decide (r.session<0)=a3
 generalize decide (r.session>zaS)=a4
 generalize decide (r.ahead<0)=a5
 generalize decide (r.ahead>3)=a6
 generalize decide ((r.held.length:Int)>4)=a7
 generalize (r.session==0)=a8
 generalize decide ((r.held.length:Int)>0)=a9
 generalize zbT (zcp r.held) 0 r.held=a0
 cases a1<;>cases a2<;>cases a3<;>cases a4<;>cases a5<;>cases a6<;>first|rfl|(cases a7<;>cases a8<;>cases a9<;>rfl)
set_option maxHeartbeats 2000000 in
theorem zfL (r:Reply) (hr:zcx r):CallOK Tryz.prog 143 [.f (.agg r.lent)] (fun x o=>x=[rb (zcD r)]∧o=[]):=by
 refine zac zaq mixed (T:=Ty) (n:=84) Tryz.func143 (c:=Tryz.f143.body.getD .skip) rfl Tryz.results143 Tryz.ntmps143 Tryz.call143 ?_
 simp only[Tryz.f143,Option.getD]
 obtain⟨h1,h2⟩:=hr
 have hh:=zdF r.session 0
 repeat'(first|refine zq0 ?_|exact zd0|refine zc (hh) ?_|refine zg (hh) ?_|(refine zaa ?_ ?_<;>intro hb)|(refine And.intro ?_ ?_;exact zI)|(refine And.intro ?_ ?_<;>intro hg)|exact zC|fail)
 ·rw[zgT,show zpY r=true from hb];rfl
 ·have hs:zcD r=zbT (zcp r.held) 0 r.held:=by rw[zgT,show zpY r=false from hb];rfl
  rw[hs]
  clear hb
  refine zas (τ:=Nat) (fun i=>⟨[dd, .one (.ptr ⟨1,0,1⟩ 0),dd,ai i,dd,dd,dd,dd,dd,dd,dd,dd,dd,dd,dd,dd,dd,dd,dd,dd,dd,dd,dd,dd,dd,dd,dd,dd,dd,dd,dd,dd,dd,dd,dd,dd,dd,dd,dd,dd,dd,dd,dd,dd,dd,dd,dd,dd,dd,dd,dd,dd,dd,dd,dd,dd,dd,dd,dd,dd,dd,dd,dd,dd,dd,dd,dd,dd,dd,dd,dd,dd,dd,dd,dd,dd,dd,dd,dd,dd,dd,dd,dd,dd],[(1,{next:=2,l:=[some {e:=1,var:=true,fz:=false,sz:=0,cells:=[di r.code,di r.session,di r.ahead, .lent r.held.length (zaF r.held)]},none,none,none,none]}),(4,⟨2,[]⟩)]⟩)
   (fun i=>i≤r.held.length) (fun i=>zbT (zcp r.held) i (r.held.drop i)) (fun i=>r.held.length - i) 0
   (Gh.canon [1] [4] [] zK rfl rfl) (Nat.zero_le _) ?_
  intro i hi0 hF K hK
  rw[List.drop_zero]at hF
  refine zw ?_
  refine zaa (fun hlt=> ?_) (fun hge=> ?_)
  ·have hi:i<r.held.length:=by simpa using hlt
   have hat:=zcE hi
   have hw:=zar hi (by omega)
   rw[zcr hi]at hF
   have hnm:=ziz r.held[i].name (h2 _ (List.getElem_mem hi))
   have hhg:=zdF r.held[i].token 1
   have hH:(decide (r.held[i].token≥1)&&decide (r.held[i].token≤2305843009213693952))= !(decide (r.held[i].token<1)||decide (r.held[i].token>zaS)):=by
    have hH:zaS=2305843009213693952:=rfl
    rw[Bool.eq_iff_iff];simp[hH]
   cases e0:decide ((i:Int)>0)
   ·have h0:i=0:=by simpa using e0
    have hq:zcp r.held i r.held[i]= !(!nameP r.held[i].name|| !(decide (r.held[i].token≥1)&&decide (r.held[i].token≤2305843009213693952))):=by
     unfold zcp
     have:decide (i>0)=false:=by simpa using e0
     rw[this,Bool.false_and,Bool.or_false,hH,Bool.not_not,Bool.or_assoc]
    have hp:(zaF r.held).drop ((IntKind.i64.wrap ((i:Int) - 1)).toNat*2)=r.held[i].enc++zaF (r.held.drop (i+1)):=by
     rw[←zcE hi,h0];rfl
    repeat'(first|refine zq (I hat (I hp (I e0 (I @zaU zca)))) ?_|exact zd (I hat (I hp (I e0 (I @zaU zca))))|refine zc (hnm) ?_|refine zg (hnm) ?_|refine zc (hhg) ?_|refine zg (hhg) ?_|(refine zaa ?_ ?_<;>intro hb)|(refine And.intro ?_ ?_;exact zI)|(refine And.intro ?_ ?_<;>intro hg)|exact zC|fail)
    ·rw[hq,hb,if_neg (by simp)]at hF
     rw[←hF]
    ·exact hK _ (i+1) (Gh.canon [1] [] [] (zk hw) rfl rfl) hi (by rw[zcr hi,hq,hb];rfl) (by omega)
   ·have h0:0<i:=by simpa using e0
    have hq:zcp r.held i r.held[i]= !(!nameP r.held[i].name|| !(decide (r.held[i].token≥1)&&decide (r.held[i].token≤2305843009213693952))||(Go.Op.bytesLess r.held[i].name.toList (r.held[i - 1]'(by omega)).name.toList||r.held[i].name.toList==(r.held[i - 1]'(by omega)).name.toList)):=by
     rw[zs3]
     unfold zcp zoZ
     have:decide (i>0)=true:=by simpa using e0
     rw[this,List.getElem?_eq_getElem (by omega),hH,Bool.not_not]
     simp only[Bool.true_and,Option.map_some,Option.getD_some,Bool.or_assoc]
    have hp:=zcE (show i - 1<r.held.length by omega)
    have hw1:IntKind.i64.wrap ((i:Int) - 1)=((i - 1:Nat):Int):=by rw[wrap64 (by omega) (by omega)];omega
    repeat'(first|refine zq (I hat (I hp (I hw1 (I e0 (I @zaU zca))))) ?_|exact zd (I hat (I hp (I hw1 (I e0 (I @zaU zca)))))|refine zc (hnm) ?_|refine zg (hnm) ?_|refine zc (hhg) ?_|refine zg (hhg) ?_|(refine zaa ?_ ?_<;>intro hb)|(refine And.intro ?_ ?_;exact zI)|(refine And.intro ?_ ?_<;>intro hg)|exact zC|fail)
    ·rw[hq,hb,if_neg (by simp)]at hF
     rw[←hF]
    ·exact hK _ (i+1) (Gh.canon [1] [] [] (zk hw) rfl rfl) hi (by rw[zcr hi,hq,hb];rfl) (by omega)
  ·have hi:i=r.held.length:=by
    have:¬(i:Int)<r.held.length:=by simpa using hge
    omega
   rw[zhb hi]at hF
   rw[←hF]
   repeat'(first|refine zq0 ?_|exact zd0|(refine zaa ?_ ?_<;>intro hb)|(refine And.intro ?_ ?_;exact zI)|(refine And.intro ?_ ?_<;>intro hg)|exact zC|fail)
theorem ziA (m:Memo) (hr:zcx m.reply):CallOK Tryz.prog 106 [.f (.agg m.lent)] (fun x o=>x=[rb (answerB m)]∧o=[]):=by
 refine zac zaq mixed (T:=Ty) (n:=21) Tryz.func106 (c:=Tryz.f106.body.getD .skip) rfl Tryz.results106 Tryz.ntmps106 Tryz.call106 ?_
 simp only[Tryz.f106,Option.getD]
 have hh:=zdF m.seq 1
 repeat'(first|refine zq0 ?_|exact zd0|refine zc (hh) ?_|refine zg (hh) ?_|refine zc (zfL m.reply hr) ?_|refine zg (zfL m.reply hr) ?_|(refine zaa ?_ ?_<;>intro hb)|(refine And.intro ?_ ?_;exact zI)|(refine And.intro ?_ ?_<;>intro hg)|exact zC|fail)
 simp[answerB,Bool.and_assoc]
theorem zgR (l:List Memo) (hl:l.length<2^62) (c q:Int):CallOK Tryz.prog 15 [.f (al l.length (zaw l)), .f (ai c), .f (ai q)] (fun r o=>r=[ri (za8 l c q)]∧o=[]):=by
 refine zac zaq mixed (T:=Ty) (n:=29) Tryz.func15 (c:=Tryz.f15.body.getD .skip) rfl Tryz.results15 Tryz.ntmps15 Tryz.call15 ?_
 simp only[Tryz.f15,Option.getD]
 have hla:=zhR l hl c
 cases hf:zbb l c with
 |none=>
  rw[hf]at hla
  simp only[Option.isSome_none,Option.getD_none]at hla
  have:za8 l c q=1:=by unfold za8;rw[hf]
  rw[this]
  repeat'(first|refine zq0 ?_|exact zd0|refine zc (hla) ?_|refine zg (hla) ?_|(refine zaa ?_ ?_<;>intro hb)|(refine And.intro ?_ ?_;exact zI)|(refine And.intro ?_ ?_<;>intro hg)|exact zC|fail)
 |some m=>
  rw[hf]at hla
  simp only[Option.isSome_some,Option.getD_some]at hla
  have:za8 l c q=if decide (m.seq<q)=true then 1 else if(m.seq==q)=true then 0 else -1:=by unfold za8;rw[hf];simp only[decide_eq_true_eq,beq_iff_eq]
  rw[this]
  cases h1:decide (m.seq<q)
  ·cases h2:(m.seq==q)
   ·repeat'(first|refine zq (I h1 h2) ?_|exact zd (I h1 h2)|refine zc (hla) ?_|refine zg (hla) ?_|(refine zaa ?_ ?_<;>intro hb)|(refine And.intro ?_ ?_;exact zI)|(refine And.intro ?_ ?_<;>intro hg)|exact zC|fail)
   ·repeat'(first|refine zq (I h1 h2) ?_|exact zd (I h1 h2)|refine zc (hla) ?_|refine zg (hla) ?_|(refine zaa ?_ ?_<;>intro hb)|(refine And.intro ?_ ?_;exact zI)|(refine And.intro ?_ ?_<;>intro hg)|exact zC|fail)
  ·repeat'(first|refine zq h1 ?_|exact zd h1|refine zc (hla) ?_|refine zg (hla) ?_|(refine zaa ?_ ?_<;>intro hb)|(refine And.intro ?_ ?_;exact zI)|(refine And.intro ?_ ?_<;>intro hg)|exact zC|fail)
def kR (a:Memo):List Memo→Bool→List Memo
 |[],put=>if put=true then []else [a]
 |m::r,put=>if(m.client==a.client)=true then a::kR a r true else if(!put&&decide (m.client>a.client))=true then a::m::kR a r true else m::kR a r put
theorem zkR {a:Memo}:∀{l:List Memo},(∀m∈l,(m.client==a.client)=false)→kR a l true=l
 |[],_=>rfl
 |m::r,h=>by
  rw[kR,if_neg (by rw[h m List.mem_cons_self];simp),if_neg (by simp),zkR fun x hx=>h x (List.mem_cons_of_mem _ hx)]
theorem zol {a:Memo}:∀{l:List Memo},SM l→kR a l false=if(zbb l a.client).isSome=true then l.set (zfl l a.client) a else l.take (zfl l a.client)++a::l.drop (zfl l a.client)
 |[],_=>rfl
 |m::r,hs=>by
  have hs':=List.pairwise_cons.1 hs
  rw[kR]
  by_cases h1:m.client=a.client
  ·have hp:zfl (m::r) a.client=0:=by unfold zfl;rw[zcb,if_neg (by simp;omega)]
   have hf:(zbb (m::r) a.client).isSome=true:=by unfold zbb;rw[List.find?_cons_of_pos (by simpa using h1)];rfl
   rw[if_pos (by simpa using h1),if_pos hf,hp,List.set_cons_zero,zkR fun x hx=>by have:=hs'.1 x hx;simp;omega]
  ·rw[if_neg (by simpa using h1)]
   by_cases h2:m.client>a.client
   ·have hp:zfl (m::r) a.client=0:=by unfold zfl;rw[zcb,if_neg (by simp;omega)]
    have hf:(zbb (m::r) a.client).isSome=false:=by
     rw[Option.isSome_eq_false_iff,Option.isNone_iff_eq_none]
     refine List.find?_eq_none.2 fun x hx=> ?_
     rcases List.mem_cons.1 hx with rfl|hx
     ·simpa using h1
     ·have:=hs'.1 x hx;simp;omega
    rw[if_pos (by simpa using h2),hf,if_neg (by simp),hp,zkR fun x hx=>by have:=hs'.1 x hx;simp;omega]
    rfl
   ·have hp:zfl (m::r) a.client=zfl r a.client+1:=by unfold zfl;rw[zcb,if_pos (by simp;omega)]
    have hf:zbb (m::r) a.client=zbb r a.client:=by unfold zbb;rw[List.find?_cons_of_neg (by simpa using h1)]
    rw[if_neg (by simpa using h2),zol hs'.2,hf,hp]
    split<;>rfl
theorem zr2 {a:Memo} {l:List Memo} {i:Nat} {put:Bool} (hi:i<l.length):kR a (l.drop i) put=if(l[i].client==a.client)=true then a::kR a (l.drop (i+1)) true else if(!put&&decide (l[i].client>a.client))=true then a::l[i]::kR a (l.drop (i+1)) true else l[i]::kR a (l.drop (i+1)) put:=by
 rw[List.drop_eq_getElem_cons hi,kR]
abbrev zvA (a:Memo):List C:=[di a.client,di a.seq,di a.reply.code,di a.reply.session,di a.reply.ahead, .d (.sl a.reply.held.length (zaF a.reply.held))]
set_option maxHeartbeats 2000000 in
theorem zpX (l:List Memo) (hs:SM l) (hl:l.length<2^30) (a:Memo) (ha:answerB a=true) (har:zcx a.reply) (hf:za8 l a.client a.seq=1):
  CallOK Tryz.prog 65 [.f (al l.length (zaw l)), .f (.agg (a.enc.map C.d))] (fun r o=>r=[.one (.own 6 (zdf l a).length (zaw (zdf l a)) false)]∧o=[]):=by
 refine CallOK.nil ?_
 have hk:zdf l a=kR a l false:=by
  rw[zol hs]
  unfold zdf
  rw[if_neg (by rw[ha,hf];simp)]
 rw[hk]
 refine zac zaq mixed (T:=Ty) (n:=79) Tryz.func65 (c:=Tryz.f65.body.getD .skip) rfl Tryz.results65 Tryz.ntmps65 Tryz.call65 ?_
 simp only[Tryz.f65,Option.getD]
 have hma:=ziA a har
 rw[ha]at hma
 have hfr:=zgR l (by omega) a.client a.seq
 rw[hf]at hfr
 have h11:((1:Int) !=1)=false:=rfl
 repeat'(first|refine zq h11 ?_|exact zd h11|refine zc (hma) ?_|refine zg (hma) ?_|refine zc (hfr) ?_|refine zg (hfr) ?_|(refine zaa ?_ ?_<;>intro hb)|(refine And.intro ?_ ?_;exact zI)|(refine And.intro ?_ ?_<;>intro hg)|exact zC|fail)
 refine zas (τ:=Nat×Bool×List Memo) (fun t=>⟨[al l.length (zaw l),dd,dd, .one (.ptr ⟨3,0,1⟩ 0),dd, .one (.ptr ⟨5,0,1⟩ 0), .one (.own ⟨6,1,1⟩ 0 t.2.2.length),ab t.2.1,ai t.1,dd,dd,dd,dd,dd,dd,dd,dd,dd,dd,dd,dd,dd,dd,dd,dd,dd,dd,dd,dd,dd,dd,dd,dd,dd,dd,dd,dd,dd,dd,dd,dd,dd,dd,dd,dd,dd,dd,dd,dd,dd,dd,dd,dd,dd,dd,dd,dd,dd,dd,dd,dd,dd,dd,dd,dd,dd,dd,dd,dd,dd,dd,dd,dd,dd,dd,dd,dd,dd,dd],
   [(3,{next:=2,l:=[some {e:=1,var:=true,fz:=false,sz:=0,cells:=[di a.client,di a.seq,di a.reply.code,di a.reply.session,di a.reply.ahead, .d (.sl a.reply.held.length (zaF a.reply.held))]},none,none,none,none,none,none]}),(5,{next:=2,l:=[some {e:=1,var:=true,fz:=false,sz:=0,cells:=[di a.client,di a.seq,di a.reply.code,di a.reply.session,di a.reply.ahead, .d (.sl a.reply.held.length (zaF a.reply.held))]},none,none,none,none,none,none]}),(6,{next:=2,l:=[none,some {e:=1,var:=false,fz:=false,sz:=6,cells:=(zaw t.2.2).map C.d}]}),(47,⟨2,[]⟩),(48,⟨2,[]⟩),(63,⟨2,[]⟩),(64,⟨2,[]⟩),(70,⟨2,[]⟩),(71,⟨2,[]⟩)]⟩)
  (fun t=>t.1≤l.length∧t.2.2.length≤t.1+1+1∧(t.2.1=false→t.2.2.length≤t.1)) (fun t=>t.2.2++kR a (l.drop t.1) t.2.1) (fun t=>l.length - t.1) (0,false,[])
  ((Gh.nil (i:=6) (s:=6) (sz:=6) rfl).trans (Gh.canon [3,5,6] [47,48,63,64,70,71] [] zK rfl rfl)) ⟨Nat.zero_le _,by simp,by simp⟩ ?_
 rintro⟨i,put,m⟩ ⟨hi0,hm1,hm2⟩ hF K hK
 simp only[List.drop_zero,List.nil_append]at hi0 hm1 hm2 hF hK⊢
 refine zw ?_
 refine zaa (fun hlt=> ?_) (fun hge=> ?_)
 ·have hi:i<l.length:=by simpa using hlt
  have hat:=zb0 hi
  have hw:=zar hi (by omega)
  have hd:=zr2 (a:=a) (put:=put) hi
  have hb1:((m.length+1)*64≤2^47)=True:=eq_true (by omega)
  have hb2:((m.length+1+1)*64≤2^47)=True:=eq_true (by omega)
  have hsA:zaw m++[iD a.client,iD a.seq,iD a.reply.code,iD a.reply.session,iD a.reply.ahead, .sl a.reply.held.length (zaF a.reply.held)]=zaw (m++[a]):=by rw[memosE_snoc]
  cases h1:(l[i].client==a.client)
  ·rw[if_neg (by rw[h1];simp)]at hd
   cases h2:(!put&&decide (l[i].client>a.client))
   ·rw[h2,if_neg (by simp)]at hd
    have hsB:zaw m++[iD l[i].client,iD l[i].seq,iD l[i].reply.code,iD l[i].reply.session,iD l[i].reply.ahead, .sl l[i].reply.held.length (zaF l[i].reply.held)]=zaw (m++[l[i]]):=by rw[memosE_snoc]
    repeat'(first|refine zq (I hat (I h1 (I h2 (I hb1 (I hsB (I @zan zca)))))) ?_|exact zd (I hat (I h1 (I h2 (I hb1 (I hsB (I @zan zca))))))|(refine zaa ?_ ?_<;>intro hb)|(refine And.intro ?_ ?_;exact zI)|(refine And.intro ?_ ?_<;>intro hg)|exact zC|fail)
    exact hK _ (i+1,put,m++[l[i]]) (Gh.canon [3,5,6] [] [] (zk (I hw (I @List.length_append.{0} @List.length_singleton.{0}))) rfl rfl) ⟨hi,by simp;omega,fun hp=>by have:=hm2 hp;simp;omega⟩ (by simp only;rw[hd];simp) (by simp only;omega)
   ·rw[h2,if_pos rfl]at hd
    have hsB:zaw (m++[a])++[iD l[i].client,iD l[i].seq,iD l[i].reply.code,iD l[i].reply.session,iD l[i].reply.ahead, .sl l[i].reply.held.length (zaF l[i].reply.held)]=zaw (m++[a]++[l[i]]):=by rw[memosE_snoc (l:=m++[a])]
    have htA:(zaw (m++[a])).take ((m.length+1)*6)=zaw (m++[a]):=by have:=zby (l:=m++[a]);rwa[List.length_append,List.length_singleton]at this
    repeat'(first|refine zq (I hat (I h1 (I h2 (I hb1 (I hb2 (I hsA (I htA (I hsB (I @zan zca))))))))) ?_|exact zd (I hat (I h1 (I h2 (I hb1 (I hb2 (I hsA (I htA (I hsB (I @zan zca)))))))))|(refine zaa ?_ ?_<;>intro hb)|(refine And.intro ?_ ?_;exact zI)|(refine And.intro ?_ ?_<;>intro hg)|exact zC|fail)
    have hpf:put=false:=by cases put;rfl;simp at h2
    have hm3:=hm2 hpf
    exact hK _ (i+1,true,m++[a]++[l[i]]) (Gh.canon [3,5,6] [] [] (zk (I hw (I @List.length_append.{0} @List.length_singleton.{0}))) rfl rfl) ⟨hi,by simp;omega,fun hp=>by cases hp⟩ (by simp only;rw[hd];simp) (by simp only;omega)
  ·rw[if_pos h1]at hd
   repeat'(first|refine zq (I hat (I h1 (I hb1 (I hsA (I @zan zca))))) ?_|exact zd (I hat (I h1 (I hb1 (I hsA (I @zan zca)))))|(refine zaa ?_ ?_<;>intro hb)|(refine And.intro ?_ ?_;exact zI)|(refine And.intro ?_ ?_<;>intro hg)|exact zC|fail)
   exact hK _ (i+1,true,m++[a]) (Gh.canon [3,5,6] [] [] (zk (I hw (I @List.length_append.{0} @List.length_singleton.{0}))) rfl rfl) ⟨hi,by simp;omega,fun hp=>by cases hp⟩ (by simp only;rw[hd];simp) (by simp only;omega)
 ·have hi:i=l.length:=by
   have:¬(i:Int)<l.length:=by simpa using hge
   omega
  subst hi
  rw[List.drop_length,kR]at hF
  have hb1:((m.length+1)*64≤2^47)=True:=eq_true (by omega)
  have hsA:zaw m++[iD a.client,iD a.seq,iD a.reply.code,iD a.reply.session,iD a.reply.ahead, .sl a.reply.held.length (zaF a.reply.held)]=zaw (m++[a]):=by rw[memosE_snoc]
  cases put
  ·repeat'(first|refine zq (I hb1 (I hsA (I @zan zca))) ?_|exact zd (I hb1 (I hsA (I @zan zca)))|(refine zaa ?_ ?_<;>intro hb)|(refine And.intro ?_ ?_;exact zI)|(refine And.intro ?_ ?_<;>intro hg)|exact zC|fail)
   have hF':m++[a]=kR a l false:=hF
   rw[←hF']
   show zaV _ _∧True
   simp[zaV]
  ·repeat'(first|refine zq (I hb1 hsA) ?_|exact zd (I hb1 hsA)|(refine zaa ?_ ?_<;>intro hb)|(refine And.intro ?_ ?_;exact zI)|(refine And.intro ?_ ?_<;>intro hg)|exact zC|fail)
   have hF':m=kR a l false:=by rw[←hF];simp
   rw[←hF']
   show zaV _ _∧True
   simp[zaV]
theorem zgS (l:List Memo) (c q:Int):za8 l c q=1∨za8 l c q=0∨za8 l c q= -1:=by
 unfold za8
 cases zbb l c with
 |none=>exact .inl rfl
 |some m=>simp only;split;exact .inl rfl;split;exact .inr (.inl rfl);exact .inr (.inr rfl)
abbrev zr3 (a:Reply):RF:= .agg [.d (iD a.code), .d (iD a.session), .d (iD a.ahead), .d (.sl a.held.length (zaF a.held))]
set_option maxHeartbeats 4000000 in
theorem zom (s:St) (h:Small s) (hr:RightS s) (r:Req) (hro:r.ok) (hdr:Req.may r=true→answerB ⟨r.client,r.seq,(zaR s r).2⟩=true) (hdo:Req.may r=true→zcx (zaR s r).2):
  CallOK Tryz.prog 34 [.f (zoV s), .f (.agg (r.enc.map C.d))]
  (fun x o=>x=[zmT (zba s r).1,zr3 (zba s r).2.1,rb (zba s r).2.2]∧o=[]):=by
 refine CallOK.nil ?_
 refine zac zaq mixed (T:=Ty) (n:=59) Tryz.func34 (c:=Tryz.f34.body.getD .skip) rfl Tryz.results34 Tryz.ntmps34 Tryz.call34 ?_
 simp only[Tryz.f34,Option.getD]
 have hmr:=zfD r hro
 have hfr:=zgR s.memos (by have:=h.memos;omega) r.client r.seq
 cases hm:Req.may r
 ·rw[hm]at hmr
  have ha:zba s r=(s,⟨1,0,0,[]⟩,false):=by unfold zba;rw[if_pos (by rw[hm];rfl)]
  rw[ha]
  repeat'(first|refine zq0 ?_|exact zd0|refine zc (hmr) ?_|refine zg (hmr) ?_|(refine zaa ?_ ?_<;>intro hb)|(refine And.intro ?_ ?_;exact zI)|(refine And.intro ?_ ?_<;>intro hg)|exact zC|fail)
  simp[zbe,zdd,zbn,zaV]
 ·rw[hm]at hmr
  have hap:zba s r=if decide (za8 s.memos r.client r.seq<0)=true then(s,⟨0,0,0,[]⟩,false)else if(za8 s.memos r.client r.seq==0)=true then(s,((zbb s.memos r.client).map Memo.reply).getD ⟨0,0,0,[]⟩,false)else
    ({(zaR s r).1 with memos:=zdf (zaR s r).1.memos ⟨r.client,r.seq,(zaR s r).2⟩},(zaR s r).2,true):=by
   unfold zba
   rw[if_neg (by rw[hm];simp)]
   have hc:=zgS s.memos r.client r.seq
   rcases hc with e|e|e<;>rw[e]<;>rfl
  cases f1:decide (za8 s.memos r.client r.seq<0)
  ·rw[if_neg (by rw[f1];simp)]at hap
   cases f2:(za8 s.memos r.client r.seq==0)
   ·rw[if_neg (by rw[f2];simp)]at hap
    rw[hap]
    have hdn:=zpZ s h hr r hro hm
    have hdm:=zfo h r
    have hf1:za8 s.memos r.client r.seq=1:=by
     rcases zgS s.memos r.client r.seq with e|e|e
     ·exact e
     ·rw[e]at f2;cases f2
     ·rw[e]at f1;cases f1
    have hke:=zpX s.memos hr.ms h.memos ⟨r.client,r.seq,(zaR s r).2⟩ (hdr hm) (hdo hm) hf1
    rw[hdm]
    repeat'(first|(with_reducible first|refine zaW 10 ?_|refine zaJ 10 ?_|refine zaK 10 ?_)|refine zu (I f1 (I f2 hdm)) ?_|exact zd (I f1 (I f2 hdm))|(with_reducible first|refine zab _ _ ?_)|refine zc (hmr) ?_|refine zg (hmr) ?_|refine zc (hfr) ?_|refine zg (hfr) ?_|refine zc (hdn) ?_|refine zg (hdn) ?_|(refine zaa ?_ ?_<;>intro hb)|(refine And.intro ?_ ?_;exact zI)|(refine And.intro ?_ ?_<;>intro hg)|exact zC|fail)
    refine za1 (zaX (Gh.sealF 11 3 (.own ⟨11,4,4⟩ 0 (zaR s r).2.held.length) ?_) ?_)
    ·exact zo0
    refine zf0 ?_
    repeat'(first|(with_reducible first|refine zaW 11 ?_|refine zaJ 11 ?_|refine zaK 11 ?_)|refine zu hdm ?_|exact zd hdm|(with_reducible first|refine zab _ _ ?_)|refine zc (hke) ?_|refine zg (hke) ?_|(refine zaa ?_ ?_<;>intro hb)|(refine And.intro ?_ ?_;exact zI)|(refine And.intro ?_ ?_<;>intro hg)|exact zC|fail)
    refine za1 (zaX (Gh.sealF 10 5 (.own ⟨10,6,7⟩ 0 (zdf s.memos ⟨r.client,r.seq,(zaR s r).2⟩).length) ?_) ?_)
    ·exact zo0
    refine zf0 ?_
    repeat'(first|refine zq hdm ?_|exact zd hdm|(refine zaa ?_ ?_<;>intro hb)|(refine And.intro ?_ ?_;exact zI)|(refine And.intro ?_ ?_<;>intro hg)|exact zC|fail)
    simp[zbe,zdd,zbn,zaV]
   ·rw[if_pos f2]at hap
    rw[hap]
    have hla:=zhR s.memos (by have:=h.memos;omega) r.client
    repeat'(first|refine zq (I f1 f2) ?_|exact zd (I f1 f2)|refine zc (hmr) ?_|refine zg (hmr) ?_|refine zc (hfr) ?_|refine zg (hfr) ?_|refine zc (hla) ?_|refine zg (hla) ?_|(refine zaa ?_ ?_<;>intro hb)|(refine And.intro ?_ ?_;exact zI)|(refine And.intro ?_ ?_<;>intro hg)|exact zC|fail)
    cases hfm:zbb s.memos r.client with
    |none=>unfold za8 at f2;rw[hfm]at f2;cases f2
    |some m=>simp[zbe,zdd,zbn,zaV]
  ·rw[if_pos f1]at hap
   rw[hap]
   repeat'(first|refine zq f1 ?_|exact zd f1|refine zc (hmr) ?_|refine zg (hmr) ?_|refine zc (hfr) ?_|refine zg (hfr) ?_|(refine zaa ?_ ?_<;>intro hb)|(refine And.intro ?_ ?_;exact zI)|(refine And.intro ?_ ?_<;>intro hg)|exact zC|fail)
   simp[zbe,zdd,zbn,zaV]
def sameI (a b:List Int):Bool:=(a.length==b.length)&&((a.zip b).all fun p=>p.1==p.2)
theorem zkn (a b:List Int) (ha:a.length<2^62) (hb:b.length<2^62):CallOK Tryz.prog 90 [.f (al a.length (zau a)), .f (al b.length (zau b))] (fun r o=>r=[rb (sameI a b)]∧o=[]):=by
 refine zac zaq mixed (T:=Ty) (n:=26) Tryz.func90 (c:=Tryz.f90.body.getD .skip) rfl Tryz.results90 Tryz.ntmps90 Tryz.call90 ?_
 simp only[Tryz.f90,Option.getD]
 cases hl:((a.length:Int) !=(b.length:Int))
 ·have hle:a.length=b.length:=by simp at hl;omega
  have hs:sameI a b=(a.zip b).all fun p=>p.1==p.2:=by unfold sameI;rw[hle];simp
  rw[hs]
  repeat'(first|refine zq hl ?_|exact zd hl|(refine zaa ?_ ?_<;>intro hb)|(refine And.intro ?_ ?_;exact zI)|(refine And.intro ?_ ?_<;>intro hg)|exact zC|fail)
  refine zas (τ:=Nat) (fun i=>⟨[al a.length (zau a),al b.length (zau b),dd,dd,dd,ai i,dd,dd,dd,dd,dd,dd,dd,dd,dd,dd,dd,dd,dd,dd,dd,dd,dd,dd,dd,dd],[]⟩)
   (fun i=>i≤a.length) (fun i=>((a.drop i).zip (b.drop i)).all fun p=>p.1==p.2) (fun i=>a.length - i) 0
   (Gh.canon [] [] [] zK rfl rfl) (Nat.zero_le _) ?_
  intro i hi0 hF K hK
  rw[List.drop_zero,List.drop_zero]at hF
  refine zw ?_
  refine zaa (fun hlt=> ?_) (fun hge=> ?_)
  ·have hi:i<a.length:=by simpa using hlt
   have hib:i<b.length:=by omega
   have hat:=zc7 hi
   have hbt:=zc7 hib
   have hw:=zar hi ha
   have hq:(((a.drop i).zip (b.drop i)).all fun p=>p.1==p.2)=((a[i]==b[i])&&(((a.drop (i+1)).zip (b.drop (i+1))).all fun p=>p.1==p.2)):=by
    rw[List.drop_eq_getElem_cons hi,List.drop_eq_getElem_cons hib,List.zip_cons_cons,List.all_cons]
   rw[hq]at hF
   cases he:a[i] !=b[i]
   ·have he':(a[i]==b[i])=true:=by simpa using he
    rw[he',Bool.true_and]at hq
    repeat'(first|refine zq (I hat (I hbt (I he (I @zah zca)))) ?_|exact zd (I hat (I hbt (I he (I @zah zca))))|(refine zaa ?_ ?_<;>intro hb)|(refine And.intro ?_ ?_;exact zI)|(refine And.intro ?_ ?_<;>intro hg)|exact zC|fail)
    exact hK _ (i+1) (Gh.canon [] [] [] (zk hw) rfl rfl) hi hq.symm (by omega)
   ·have he':(a[i]==b[i])=false:=by simpa using he
    rw[he',Bool.false_and]at hF
    repeat'(first|refine zq (I hat (I hbt (I he (I @zah zca)))) ?_|exact zd (I hat (I hbt (I he (I @zah zca))))|(refine zaa ?_ ?_<;>intro hb)|(refine And.intro ?_ ?_;exact zI)|(refine And.intro ?_ ?_<;>intro hg)|exact zC|fail)
    rw[←hF]
  ·have hi:i=a.length:=by
    have:¬(i:Int)<a.length:=by simpa using hge
    omega
   rw[hi,List.drop_length,List.zip_nil_left,List.all_nil]at hF
   rw[←hF]
   repeat'(first|refine zq0 ?_|exact zd0|(refine zaa ?_ ?_<;>intro hb)|(refine And.intro ?_ ?_;exact zI)|(refine And.intro ?_ ?_<;>intro hg)|exact zC|fail)
 ·have hs:sameI a b=false:=by
   have:(a.length==b.length)=false:=by simp at hl⊢;omega
   unfold sameI;rw[this];rfl
  rw[hs]
  repeat'(first|refine zq hl ?_|exact zd hl|(refine zaa ?_ ?_<;>intro hb)|(refine And.intro ?_ ?_;exact zI)|(refine And.intro ?_ ?_<;>intro hg)|exact zC|fail)
def st0:St:=⟨0,0,0,[],[],[]⟩
def rq0:Req:=⟨3,1,1,0, .empty⟩
theorem zeR:RightS st0:=zl3.1 rfl
def st1:St:=⟨0,1,0,[⟨3,1,0⟩],[],[⟨3,1,⟨0,1,0,[]⟩⟩]⟩
theorem zlW (n:Int):(zge n).size≤12:=by
 unfold zge
 rcases six n with h|h|h|h|h|h<;>rw[h]<;>decide
theorem zq1 {s:St} (hr:RightS s) {a:Act} (ha:ziM a):(zg1 s a).ok:=by
 obtain⟨_,h1,h2,h3,h4,h5⟩:=ha
 unfold zcn at*
 have hH:zaS=2305843009213693952:=rfl
 have hsq:∀c,0≤((zbb s.memos c).getD zcl).seq∧((zbb s.memos c).getD zcl).seq≤zaS:=fun c=>by
  cases hf:zbb s.memos c with
  |none=>decide
  |some m=>
   have:=(zcJ (hr.mok m (List.mem_of_find?_eq_some hf))).2.1
   simp only[Option.getD_some];omega
 have hnm:∀c,0≤((zaE s.sess c).getD zdH).num∧((zaE s.sess c).getD zdH).num≤zaS:=fun c=>by
  cases hf:zaE s.sess c with
  |none=>decide
  |some m=>
   have:=(zbP.1 (hr.sok m (List.mem_of_find?_eq_some hf)).1).2.1
   simp only[Option.getD_some];omega
 have hk:1≤zdI a.kind∧zdI a.kind≤6:=by unfold zdI;omega
 have hs:0≤zfN a.kind a.session∧zfN a.kind a.session≤7:=by unfold zfN;split<;>omega
 have hn:(zeS a.kind a.name).size≤12:=by
  unfold zeS
  split
  ·exact zlW _
  ·decide
 unfold zg1 Req.ok i64 zoT
 simp only
 have:=hsq (a.client % 8)
 have:=hnm (a.client % 8)
 refine⟨by omega, ?_, ?_, ?_, ?_⟩
 ·split
  ·split<;>omega
  ·omega
 ·split<;>omega
 ·split
  ·omega
  ·split<;>omega
 ·split
  ·decide
  ·omega
def ztj (s:St) (a:Act):St:=(zba (zbi s (s.time+a.time % 16) 60) (zg1 (zbi s (s.time+a.time % 16) 60) a)).1
def zsn:List Act→St→St
 |[],s=>s
 |a::r,s=>zsn r (ztj s a)
structure Mk (s:St) (i:Nat):Prop where
 rt:RightS s
 num:s.num≤i
 tok:s.token≤8*i
abbrev zvI (acts:List Act):St:=zsn (acts.take 60) st0
def zvF (s:St) (k:Lk):Bool:=(zaE s.sess k.holder).isSome&&decide (k.token≤s.token)&&k.line.all fun c=>(zaE s.sess c).isSome
def zvD (s:St):Bool:=zm2 s&&decide (s.num≤2305843009213692952)&&decide (s.token≤2305843009213692952)
def zvV (k:Lk):Bool:=decide ((k.name.size:Int)>300)||decide ((k.line.length:Int)>20)
def zvW (m:Memo):Bool:=decide ((m.reply.held.length:Int)>20)
def zvE (s:St):Bool:=if(decide ((s.sess.length:Int)>20)||decide ((s.locks.length:Int)>20)||decide ((s.memos.length:Int)>20))=true then true else if s.locks.any zvV=true then true else s.memos.any zvW
def zdb {α:Type} (eq:α→α→Bool) (a b:List α):Bool:=(a.length==b.length)&&((a.zip b).all fun p=>eq p.1 p.2)
def zgY {α:Type} (eq:α→α→Bool) (a b:List α) (i:Nat):Bool:=((a.drop i).zip (b.drop i)).all fun p=>eq p.1 p.2
theorem zep {α:Type} {eq:α→α→Bool} {a b:List α} {i:Nat} (ha:i<a.length) (hb:i<b.length):zgY eq a b i=(eq a[i] b[i]&&zgY eq a b (i+1)):=by
 unfold zgY
 rw[List.drop_eq_getElem_cons ha,List.drop_eq_getElem_cons hb,List.zip_cons_cons,List.all_cons]
theorem zfk {α:Type} {eq:α→α→Bool} {a b:List α} {i:Nat} (ha:i=a.length):zgY eq a b i=true:=by
 unfold zgY
 rw[List.drop_eq_nil_of_le (by omega)];simp
theorem zf8 {α:Type} {eq:α→α→Bool} {a b:List α} (h:((a.length:Int) !=(b.length:Int))=true):zdb eq a b=false:=by
 unfold zdb
 simp at h
 simp;omega
theorem zf9 {α:Type} {eq:α→α→Bool} {a b:List α} (h:((a.length:Int) !=(b.length:Int))=false):a.length=b.length∧zdb eq a b=zgY eq a b 0:=by
 have hl:a.length=b.length:=by simp at h;omega
 unfold zdb zgY
 simp[hl]
def zmH (a b:Int):Bool:=a==b
def zp8 (a b:Grant):Bool:=(a.name.toList==b.name.toList)&&(a.token==b.token)
def zse (a b:Sess):Bool:=(a.client==b.client)&&((a.num==b.num)&&(a.renewed==b.renewed))
def zp9 (a b:Lk):Bool:=(a.name.toList==b.name.toList)&&(a.holder==b.holder)&&(a.token==b.token)&&zdb zmH a.line b.line
def eqRe (a b:Reply):Bool:=(a.code==b.code)&&(a.session==b.session)&&(a.ahead==b.ahead)&&zdb zp8 a.held b.held
def zqa (a b:Memo):Bool:=(a.client==b.client)&&(a.seq==b.seq)&&(a.reply.code==b.reply.code)&&(a.reply.session==b.reply.session)&&(a.reply.ahead==b.reply.ahead)&&zdb zp8 a.reply.held b.reply.held
def zte (a b:St):Bool:=(a.time==b.time)&&(a.num==b.num)&&(a.token==b.token)&&zdb zse a.sess b.sess&&zdb zp9 a.locks b.locks&&zdb zqa a.memos b.memos
theorem zoH {a b:List Int}:sameI a b=zdb zmH a b:=rfl
abbrev afn (n:Nat):AV:= .one (.d (.v (.func (.func n) #[] #[])))
set_option maxHeartbeats 1000000 in
theorem zmI (a b:List Grant) (ha:a.length<2^30) (hb:b.length<2^30):CallOK Tryz.prog 130 [.f (al a.length (zaF a)), .f (al b.length (zaF b))] (fun r o=>r=[rb (zdb zp8 a b)]∧o=[]):=by
 refine zac zaq mixed (T:=Ty) (n:=26) Tryz.func130 (c:=Tryz.f130.body.getD .skip) rfl Tryz.results130 Tryz.ntmps130 Tryz.call130 ?_
 simp only[Tryz.f130,Option.getD]
 cases hl:((a.length:Int) !=(b.length:Int))
 ·obtain⟨hle,hsr⟩:=zf9 (eq:=zp8) hl
  rw[hsr]
  repeat'(first|refine zq hl ?_|exact zd hl|(refine zaa ?_ ?_<;>intro hb)|(refine And.intro ?_ ?_;exact zI)|(refine And.intro ?_ ?_<;>intro hg)|exact zC|fail)
  refine zas (τ:=Nat) (fun i=>⟨[al a.length (zaF a),al b.length (zaF b),dd,dd,dd,ai i,dd,dd,dd,dd,dd,dd,dd,dd,dd,dd,dd,dd,dd,dd,dd,dd,dd,dd,dd,dd],[]⟩)
   (fun i=>i≤a.length) (fun i=>zgY zp8 a b i) (fun i=>a.length - i) 0
   (Gh.canon [] [] [] zK rfl rfl) (Nat.zero_le _) ?_
  intro i hi0 hF K hK
  refine zw ?_
  refine zaa (fun hlt=> ?_) (fun hge=> ?_)
  ·have hi:i<a.length:=by simpa using hlt
   have hi2:i<b.length:=by omega
   have hat:=zcE hi
   have hat2:=zcE hi2
   have hw:=zar hi (by omega)
   have hlb:decide ((i:Int)<a.length)=true:=by simp;omega
   have hst:=zep (eq:=zp8) hi hi2
   cases hq:zp8 a[i] b[i]
   ·rw[hq]at hst
    have he:((a[i].name.toList==b[i].name.toList)&&(a[i].token==b[i].token))=false:=by exact hq
    rw[←hF,hst]
    repeat'(first|refine zq (I hat (I hat2 (I hlb (I he (I @Bool.not_true (I @Bool.not_false (I @Bool.and_self (I @zaU zca)))))))) ?_|exact zd (I hat (I hat2 (I hlb (I he (I @Bool.not_true (I @Bool.not_false (I @Bool.and_self (I @zaU zca))))))))|(refine zaa ?_ ?_<;>intro hb)|(refine And.intro ?_ ?_;exact zI)|(refine And.intro ?_ ?_<;>intro hg)|exact zC|fail)
   ·rw[hq,Bool.true_and]at hst
    have he:((a[i].name.toList==b[i].name.toList)&&(a[i].token==b[i].token))=true:=by exact hq
    repeat'(first|refine zq (I hat (I hat2 (I hlb (I he (I @Bool.not_true (I @Bool.not_false (I @Bool.and_self (I @zaU zca)))))))) ?_|exact zd (I hat (I hat2 (I hlb (I he (I @Bool.not_true (I @Bool.not_false (I @Bool.and_self (I @zaU zca))))))))|(refine zaa ?_ ?_<;>intro hb)|(refine And.intro ?_ ?_;exact zI)|(refine And.intro ?_ ?_<;>intro hg)|exact zC|fail)
    exact hK _ (i+1) (Gh.canon [] [] [] (zk hw) rfl rfl) hi hst.symm (by omega)
  ·have hi:i=a.length:=by
    have:¬(i:Int)<a.length:=by simpa using hge
    omega
   rw[←hF,zfk hi]
   repeat'(first|refine zq0 ?_|exact zd0|(refine zaa ?_ ?_<;>intro hb)|(refine And.intro ?_ ?_;exact zI)|(refine And.intro ?_ ?_<;>intro hg)|exact zC|fail)
 ·rw[zf8 hl]
  repeat'(first|refine zq hl ?_|exact zd hl|(refine zaa ?_ ?_<;>intro hb)|(refine And.intro ?_ ?_;exact zI)|(refine And.intro ?_ ?_<;>intro hg)|exact zC|fail)
theorem zoI (a b:Reply) (ha:a.held.length<2^30) (hb:b.held.length<2^30):CallOK Tryz.prog 89 [.f (.agg a.lent), .f (.agg b.lent)] (fun r o=>r=[rb (eqRe a b)]∧o=[]):=by
 refine zac zaq mixed (T:=Ty) (n:=31) Tryz.func89 (c:=Tryz.f89.body.getD .skip) rfl Tryz.results89 Tryz.ntmps89 Tryz.call89 ?_
 simp only[Tryz.f89,Option.getD]
 have hi:=zmI a.held b.held ha hb
 repeat'(first|refine zq0 ?_|exact zd0|refine zc (hi) ?_|refine zg (hi) ?_|(refine zaa ?_ ?_<;>intro hb)|(refine And.intro ?_ ?_;exact zI)|(refine And.intro ?_ ?_<;>intro hg)|exact zC|fail)
 rfl
set_option maxHeartbeats 1000000 in
theorem zoJ (a b:List Sess) (ha:a.length<2^30) (hb:b.length<2^30):CallOK Tryz.prog 48 [.f (al a.length (zaI a)), .f (al b.length (zaI b))] (fun r o=>r=[rb (zdb zse a b)]∧o=[]):=by
 refine zac zaq mixed (T:=Ty) (n:=26) Tryz.func48 (c:=Tryz.f48.body.getD .skip) rfl Tryz.results48 Tryz.ntmps48 Tryz.call48 ?_
 simp only[Tryz.f48,Option.getD]
 cases hl:((a.length:Int) !=(b.length:Int))
 ·obtain⟨hle,hsr⟩:=zf9 (eq:=zse) hl
  rw[hsr]
  repeat'(first|refine zq hl ?_|exact zd hl|(refine zaa ?_ ?_<;>intro hb)|(refine And.intro ?_ ?_;exact zI)|(refine And.intro ?_ ?_<;>intro hg)|exact zC|fail)
  refine zas (τ:=Nat) (fun i=>⟨[al a.length (zaI a),al b.length (zaI b),dd,dd,dd,ai i,dd,dd,dd,dd,dd,dd,dd,dd,dd,dd,dd,dd,dd,dd,dd,dd,dd,dd,dd,dd],[]⟩)
   (fun i=>i≤a.length) (fun i=>zgY zse a b i) (fun i=>a.length - i) 0
   (Gh.canon [] [] [] zK rfl rfl) (Nat.zero_le _) ?_
  intro i hi0 hF K hK
  refine zw ?_
  refine zaa (fun hlt=> ?_) (fun hge=> ?_)
  ·have hi:i<a.length:=by simpa using hlt
   have hi2:i<b.length:=by omega
   have hat:=zbU hi
   have hat2:=zbU hi2
   have hw:=zar hi (by omega)
   have hlb:decide ((i:Int)<a.length)=true:=by simp;omega
   have hst:=zep (eq:=zse) hi hi2
   cases hq:zse a[i] b[i]
   ·rw[hq]at hst
    have he:((a[i].client==b[i].client)&&((a[i].num==b[i].num)&&(a[i].renewed==b[i].renewed)))=false:=by exact hq
    rw[←hF,hst]
    repeat'(first|refine zq (I hat (I hat2 (I hlb (I he (I @Bool.not_true (I @Bool.not_false (I @Bool.and_self (I @zai zca)))))))) ?_|exact zd (I hat (I hat2 (I hlb (I he (I @Bool.not_true (I @Bool.not_false (I @Bool.and_self (I @zai zca))))))))|(refine zaa ?_ ?_<;>intro hb)|(refine And.intro ?_ ?_;exact zI)|(refine And.intro ?_ ?_<;>intro hg)|exact zC|fail)
   ·rw[hq,Bool.true_and]at hst
    have he:((a[i].client==b[i].client)&&((a[i].num==b[i].num)&&(a[i].renewed==b[i].renewed)))=true:=by exact hq
    repeat'(first|refine zq (I hat (I hat2 (I hlb (I he (I @Bool.not_true (I @Bool.not_false (I @Bool.and_self (I @zai zca)))))))) ?_|exact zd (I hat (I hat2 (I hlb (I he (I @Bool.not_true (I @Bool.not_false (I @Bool.and_self (I @zai zca))))))))|(refine zaa ?_ ?_<;>intro hb)|(refine And.intro ?_ ?_;exact zI)|(refine And.intro ?_ ?_<;>intro hg)|exact zC|fail)
    exact hK _ (i+1) (Gh.canon [] [] [] (zk hw) rfl rfl) hi hst.symm (by omega)
  ·have hi:i=a.length:=by
    have:¬(i:Int)<a.length:=by simpa using hge
    omega
   rw[←hF,zfk hi]
   repeat'(first|refine zq0 ?_|exact zd0|(refine zaa ?_ ?_<;>intro hb)|(refine And.intro ?_ ?_;exact zI)|(refine And.intro ?_ ?_<;>intro hg)|exact zC|fail)
 ·rw[zf8 hl]
  repeat'(first|refine zq hl ?_|exact zd hl|(refine zaa ?_ ?_<;>intro hb)|(refine And.intro ?_ ?_;exact zI)|(refine And.intro ?_ ?_<;>intro hg)|exact zC|fail)
set_option maxHeartbeats 1000000 in
theorem zmJ (a b:List Lk) (ha:a.length<2^30) (hb:b.length<2^30) (hla:∀x∈a,x.line.length<2^30) (hlb2:∀x∈b,x.line.length<2^30):CallOK Tryz.prog 49 [.f (al a.length (zaf a)), .f (al b.length (zaf b))] (fun r o=>r=[rb (zdb zp9 a b)]∧o=[]):=by
 refine zac zaq mixed (T:=Ty) (n:=68) Tryz.func49 (c:=Tryz.f49.body.getD .skip) rfl Tryz.results49 Tryz.ntmps49 Tryz.call49 ?_
 simp only[Tryz.f49,Option.getD]
 cases hl:((a.length:Int) !=(b.length:Int))
 ·obtain⟨hle,hsr⟩:=zf9 (eq:=zp9) hl
  rw[hsr]
  repeat'(first|refine zq hl ?_|exact zd hl|(refine zaa ?_ ?_<;>intro hb)|(refine And.intro ?_ ?_;exact zI)|(refine And.intro ?_ ?_<;>intro hg)|exact zC|fail)
  refine zas (τ:=Nat) (fun i=>⟨[al a.length (zaf a),al b.length (zaf b),dd,dd,dd,ai i,dd,dd,dd,dd,dd,dd,dd,dd,dd,dd,dd,dd,dd,dd,dd,dd,dd,dd,dd,dd,dd,dd,dd,dd,dd,dd,dd,dd,dd,dd,dd,dd,dd,dd,dd,dd,dd,dd,dd,dd,dd,dd,dd,dd,dd,dd,dd,dd,dd,dd,dd,dd,dd,dd,dd,dd,dd,dd,dd,dd,dd,dd],[]⟩)
   (fun i=>i≤a.length) (fun i=>zgY zp9 a b i) (fun i=>a.length - i) 0
   (Gh.canon [] [] [] zK rfl rfl) (Nat.zero_le _) ?_
  intro i hi0 hF K hK
  refine zw ?_
  refine zaa (fun hlt=> ?_) (fun hge=> ?_)
  ·have hi:i<a.length:=by simpa using hlt
   have hi2:i<b.length:=by omega
   have hat:=zaT hi
   have hat2:=zaT hi2
   have hw:=zar hi (by omega)
   have hlb:decide ((i:Int)<a.length)=true:=by simp;omega
   have hst:=zep (eq:=zp9) hi hi2
   have hd1:(zaf a).drop (i*4+1)=iD a[i].holder::iD a[i].token:: .sl a[i].line.length (zau a[i].line)::zaf (a.drop (i+1)):=by rw[←List.drop_drop,hat];rfl
   have hd2:(zaf b).drop (i*4+1)=iD b[i].holder::iD b[i].token:: .sl b[i].line.length (zau b[i].line)::zaf (b.drop (i+1)):=by rw[←List.drop_drop,hat2];rfl
   have hsi:=zkn a[i].line b[i].line (by have:=hla _ (List.getElem_mem hi);omega) (by have:=hlb2 _ (List.getElem_mem hi2);omega)
   cases hq:zp9 a[i] b[i]
   ·rw[hq]at hst
    have he:((((!(a[i].name.toList==b[i].name.toList))||(a[i].holder !=b[i].holder))||(a[i].token !=b[i].token))|| !sameI a[i].line b[i].line)=true:=by unfold zp9 at hq;rw[zoH];revert hq;cases zdb zmH a[i].line b[i].line<;>cases h1:(a[i].name.toList==b[i].name.toList)<;>cases h2:(a[i].holder==b[i].holder)<;>cases h3:(a[i].token==b[i].token)<;>simp[bne,h1,h2,h3]
    rw[←hF,hst]
    repeat'(first|refine zq (I hat (I hat2 (I hlb (I he (I @Bool.not_true (I @Bool.not_false (I @Bool.and_self (I hd1 (I hd2 (I @zad zca)))))))))) ?_|exact zd (I hat (I hat2 (I hlb (I he (I @Bool.not_true (I @Bool.not_false (I @Bool.and_self (I hd1 (I hd2 (I @zad zca))))))))))|refine zc (hsi) ?_|refine zg (hsi) ?_|(refine zaa ?_ ?_<;>intro hb)|(refine And.intro ?_ ?_;exact zI)|(refine And.intro ?_ ?_<;>intro hg)|exact zC|fail)
   ·rw[hq,Bool.true_and]at hst
    have he:((((!(a[i].name.toList==b[i].name.toList))||(a[i].holder !=b[i].holder))||(a[i].token !=b[i].token))|| !sameI a[i].line b[i].line)=false:=by unfold zp9 at hq;rw[zoH];revert hq;cases zdb zmH a[i].line b[i].line<;>cases h1:(a[i].name.toList==b[i].name.toList)<;>cases h2:(a[i].holder==b[i].holder)<;>cases h3:(a[i].token==b[i].token)<;>simp[bne,h1,h2,h3]
    repeat'(first|refine zq (I hat (I hat2 (I hlb (I he (I @Bool.not_true (I @Bool.not_false (I @Bool.and_self (I hd1 (I hd2 (I @zad zca)))))))))) ?_|exact zd (I hat (I hat2 (I hlb (I he (I @Bool.not_true (I @Bool.not_false (I @Bool.and_self (I hd1 (I hd2 (I @zad zca))))))))))|refine zc (hsi) ?_|refine zg (hsi) ?_|(refine zaa ?_ ?_<;>intro hb)|(refine And.intro ?_ ?_;exact zI)|(refine And.intro ?_ ?_<;>intro hg)|exact zC|fail)
    exact hK _ (i+1) (Gh.canon [] [] [] (zk hw) rfl rfl) hi hst.symm (by omega)
  ·have hi:i=a.length:=by
    have:¬(i:Int)<a.length:=by simpa using hge
    omega
   rw[←hF,zfk hi]
   repeat'(first|refine zq0 ?_|exact zd0|(refine zaa ?_ ?_<;>intro hb)|(refine And.intro ?_ ?_;exact zI)|(refine And.intro ?_ ?_<;>intro hg)|exact zC|fail)
 ·rw[zf8 hl]
  repeat'(first|refine zq hl ?_|exact zd hl|(refine zaa ?_ ?_<;>intro hb)|(refine And.intro ?_ ?_;exact zI)|(refine And.intro ?_ ?_<;>intro hg)|exact zC|fail)
set_option maxHeartbeats 1000000 in
theorem zmK (a b:List Memo) (ha:a.length<2^30) (hb:b.length<2^30) (hla:∀x∈a,x.reply.held.length<2^30) (hlb2:∀x∈b,x.reply.held.length<2^30):CallOK Tryz.prog 50 [.f (al a.length (zaw a)), .f (al b.length (zaw b))] (fun r o=>r=[rb (zdb zqa a b)]∧o=[]):=by
 refine zac zaq mixed (T:=Ty) (n:=55) Tryz.func50 (c:=Tryz.f50.body.getD .skip) rfl Tryz.results50 Tryz.ntmps50 Tryz.call50 ?_
 simp only[Tryz.f50,Option.getD]
 cases hl:((a.length:Int) !=(b.length:Int))
 ·obtain⟨hle,hsr⟩:=zf9 (eq:=zqa) hl
  rw[hsr]
  repeat'(first|refine zq hl ?_|exact zd hl|(refine zaa ?_ ?_<;>intro hb)|(refine And.intro ?_ ?_;exact zI)|(refine And.intro ?_ ?_<;>intro hg)|exact zC|fail)
  refine zas (τ:=Nat) (fun i=>⟨[al a.length (zaw a),al b.length (zaw b),dd,dd,dd,ai i,dd,dd,dd,dd,dd,dd,dd,dd,dd,dd,dd,dd,dd,dd,dd,dd,dd,dd,dd,dd,dd,dd,dd,dd,dd,dd,dd,dd,dd,dd,dd,dd,dd,dd,dd,dd,dd,dd,dd,dd,dd,dd,dd,dd,dd,dd,dd,dd,dd],[]⟩)
   (fun i=>i≤a.length) (fun i=>zgY zqa a b i) (fun i=>a.length - i) 0
   (Gh.canon [] [] [] zK rfl rfl) (Nat.zero_le _) ?_
  intro i hi0 hF K hK
  refine zw ?_
  refine zaa (fun hlt=> ?_) (fun hge=> ?_)
  ·have hi:i<a.length:=by simpa using hlt
   have hi2:i<b.length:=by omega
   have hat:=zb0 hi
   have hat2:=zb0 hi2
   have hw:=zar hi (by omega)
   have hlb:decide ((i:Int)<a.length)=true:=by simp;omega
   have hst:=zep (eq:=zqa) hi hi2
   have hd1:(zaw a).drop (i*6+1)=iD a[i].seq::(a[i].reply.enc++zaw (a.drop (i+1))):=by rw[←List.drop_drop,hat];rfl
   have hd2:(zaw b).drop (i*6+1)=iD b[i].seq::(b[i].reply.enc++zaw (b.drop (i+1))):=by rw[←List.drop_drop,hat2];rfl
   have hsr:=zoI a[i].reply b[i].reply (hla _ (List.getElem_mem hi)) (hlb2 _ (List.getElem_mem hi2))
   have hme:zqa a[i] b[i]=((a[i].client==b[i].client)&&(a[i].seq==b[i].seq)&&eqRe a[i].reply b[i].reply):=by unfold zqa eqRe;simp only[Bool.and_assoc]
   cases hq:zqa a[i] b[i]
   ·rw[hq]at hst
    have he:(((a[i].client !=b[i].client)||(a[i].seq !=b[i].seq))|| !eqRe a[i].reply b[i].reply)=true:=by rw[hme]at hq;revert hq;cases eqRe a[i].reply b[i].reply<;>cases h1:(a[i].client==b[i].client)<;>cases h2:(a[i].seq==b[i].seq)<;>simp[bne,h1,h2]
    rw[←hF,hst]
    repeat'(first|refine zq (I hat (I hat2 (I hlb (I he (I @Bool.not_true (I @Bool.not_false (I @Bool.and_self (I hd1 (I hd2 (I @zan zca)))))))))) ?_|exact zd (I hat (I hat2 (I hlb (I he (I @Bool.not_true (I @Bool.not_false (I @Bool.and_self (I hd1 (I hd2 (I @zan zca))))))))))|refine zc (hsr) ?_|refine zg (hsr) ?_|(refine zaa ?_ ?_<;>intro hb)|(refine And.intro ?_ ?_;exact zI)|(refine And.intro ?_ ?_<;>intro hg)|exact zC|fail)
   ·rw[hq,Bool.true_and]at hst
    have he:(((a[i].client !=b[i].client)||(a[i].seq !=b[i].seq))|| !eqRe a[i].reply b[i].reply)=false:=by rw[hme]at hq;revert hq;cases eqRe a[i].reply b[i].reply<;>cases h1:(a[i].client==b[i].client)<;>cases h2:(a[i].seq==b[i].seq)<;>simp[bne,h1,h2]
    repeat'(first|refine zq (I hat (I hat2 (I hlb (I he (I @Bool.not_true (I @Bool.not_false (I @Bool.and_self (I hd1 (I hd2 (I @zan zca)))))))))) ?_|exact zd (I hat (I hat2 (I hlb (I he (I @Bool.not_true (I @Bool.not_false (I @Bool.and_self (I hd1 (I hd2 (I @zan zca))))))))))|refine zc (hsr) ?_|refine zg (hsr) ?_|(refine zaa ?_ ?_<;>intro hb)|(refine And.intro ?_ ?_;exact zI)|(refine And.intro ?_ ?_<;>intro hg)|exact zC|fail)
    exact hK _ (i+1) (Gh.canon [] [] [] (zk hw) rfl rfl) hi hst.symm (by omega)
  ·have hi:i=a.length:=by
    have:¬(i:Int)<a.length:=by simpa using hge
    omega
   rw[←hF,zfk hi]
   repeat'(first|refine zq0 ?_|exact zd0|(refine zaa ?_ ?_<;>intro hb)|(refine And.intro ?_ ?_;exact zI)|(refine And.intro ?_ ?_<;>intro hg)|exact zC|fail)
 ·rw[zf8 hl]
  repeat'(first|refine zq hl ?_|exact zd hl|(refine zaa ?_ ?_<;>intro hb)|(refine And.intro ?_ ?_;exact zI)|(refine And.intro ?_ ?_<;>intro hg)|exact zC|fail)
theorem zqb (a b:St) (ha:Small a) (hb:Small b):CallOK Tryz.prog 18 [.f (.agg a.lent), .f (.agg b.lent)] (fun r o=>r=[rb (zte a b)]∧o=[]):=by
 refine zac zaq mixed (T:=Ty) (n:=45) Tryz.func18 (c:=Tryz.f18.body.getD .skip) rfl Tryz.results18 Tryz.ntmps18 Tryz.call18 ?_
 simp only[Tryz.f18,Option.getD]
 have h1:=zoJ a.sess b.sess ha.sess hb.sess
 have h2:=zmJ a.locks b.locks ha.locks hb.locks (fun k hk=>(ha.line k hk).1) (fun k hk=>(hb.line k hk).1)
 have h3:=zmK a.memos b.memos ha.memos hb.memos (fun k hk=>(ha.held k hk).1) (fun k hk=>(hb.held k hk).1)
 repeat'(first|refine zq0 ?_|exact zd0|refine zc (h1) ?_|refine zg (h1) ?_|refine zc (h2) ?_|refine zg (h2) ?_|refine zc (h3) ?_|refine zg (h3) ?_|(refine zaa ?_ ?_<;>intro hb)|(refine And.intro ?_ ?_;exact zI)|(refine And.intro ?_ ?_<;>intro hg)|exact zC|fail)
 rfl
end Go.Proofs.YtngleemijkaeoaaGreat
