import Derived.Test.YtngleemijkaeoaaGreatX
namespace Go.Proofs.YtngleemijkaeoaaGreat
open Go.Pk
set_option maxRecDepth 100000
set_option linter.unusedSimpArgs false
set_option linter.unusedVariables false
theorem zdG (v a:Int):CallOK Tryz.prog 99 [.f (ai v), .f (ai a)] (fun r o=>r=[rb (decide (v≥a)&&decide (v≤2305843009213693952))]∧o=[]):=by
 refine zac zar mixed (T:=Ty) (n:=12) Tryz.func99 (c:=Tryz.f99.body.getD .skip) rfl Tryz.results99 Tryz.ntmps99 Tryz.call99 ?_
 simp only[Tryz.f99,Option.getD]
 repeat'(first|refine zq0 ?_|exact zd0|(refine zaa ?_ ?_<;>intro hb)|(refine And.intro ?_ ?_;exact zI)|(refine And.intro ?_ ?_<;>intro hg)|exact zC|fail)
theorem zgd (s:ByteArray) (hs:s.size<2^62):CallOK Tryz.prog 132 [.f (ast s)] (fun r o=>r=[rb (nameP s)]∧o=[]):=by
 refine zac zar mixed (T:=Ty) (n:=41) Tryz.func132 (c:=Tryz.f132.body.getD .skip) rfl Tryz.results132 Tryz.ntmps132 Tryz.call132 ?_
 simp only[Tryz.f132,Option.getD]
 refine zw ?_
 refine zaa (fun hb=> ?_) (fun hb=> ?_)
 ·refine zw ?_
  have:nameP s=false:=by
   unfold nameP
   rw[Bool.and_eq_false_iff];right
   simp only[Bool.or_eq_true,decide_eq_true_eq]at hb
   simp only[Bool.and_eq_false_iff,decide_eq_false_iff_not]
   omega
  rw[this]
 have hsz:(decide ((s.size:Int)≥1)&&decide ((s.size:Int)≤12))=true:=by
  simp only[Bool.or_eq_false_iff,decide_eq_false_iff_not]at hb
  simp only[Bool.and_eq_true,decide_eq_true_eq]
  omega
 refine zw ?_
 refine ziw Ty Tryz.prog (τ:=Nat) (fun i=>⟨[ast s,dd,ab false,ai i,dd,dd,dd,dd,dd,dd,dd,dd,dd,dd,dd,dd,dd,dd,dd,dd,dd,dd,dd,dd,dd,dd,dd,dd,dd,dd,dd,dd,dd,dd,dd,dd,dd,dd,dd,dd,dd],[]⟩) (fun i=>i≤s.size∧∀j,j<i→zfg (s.data.getD j 0)=true) (fun i=>s.size - i) 0 ?_ ⟨Nat.zero_le _,fun j hj=>absurd hj (Nat.not_lt_zero j)⟩ ?_
 ·refine Gh.fgt ?_
  simp only[zaM,zaN,za4,Int.natCast_zero]
 intro i ⟨h1,h2⟩ K hK
 refine zw ?_
 refine zaa (fun hlt=> ?_) (fun hge=> ?_)
 ·have hi:i<s.size:=by simpa using hlt
  refine zw ?_
  refine⟨⟨Int.natCast_nonneg i,by omega⟩, ?_⟩
  refine⟨zow ?_, ?_⟩
  ·simp_all;omega
  have hok:zfg (s.data.getD i 0)= !((decide (((s.data.getD i 0).toNat:Int)<97)||decide (((s.data.getD i 0).toNat:Int)>122))&&(decide (((s.data.getD i 0).toNat:Int)<48)||decide (((s.data.getD i 0).toNat:Int)>57))&&(((s.data.getD i 0).toNat:Int) !=45)):=rfl
  generalize ((s.data.getD i 0).toNat:Int)=c at hok⊢
  refine zaa (fun hb2=> ?_) (fun hb2=> ?_)
  ·refine zw ?_
   have hn:nameP s=false:=by
    unfold nameP
    rw[show((List.range s.size).all fun j=>zfg (s.data.getD j 0))=false from List.all_eq_false.2 ⟨i,List.mem_range.2 hi,by rw[hok];revert hb2;simp;omega⟩,Bool.false_and]
   rw[hn]
  ·refine zw ?_
   refine hK _ (i+1) (Gh.fgt ?_) ⟨hi,fun j hj=> ?_⟩ (by omega)
   ·simp only[zan hi (by omega),zaM,zaN,za4]
   ·rcases Nat.lt_or_ge j i with h|h
    ·exact h2 j h
    ·rw[show j=i from by omega,hok];revert hb2;simp;omega
 ·refine zw ?_
  have hi:i=s.size:=by
   have:¬(i:Int)<s.size:=by simpa using hge
   omega
  have hn:nameP s=true:=by
   unfold nameP
   rw[show((List.range s.size).all fun j=>zfg (s.data.getD j 0))=true from List.all_eq_true.2 fun j hj=>h2 j (by rw[hi];exact List.mem_range.1 hj),Bool.true_and,hsz]
  rw[hn]
theorem zoE (k n:Int) (s:ByteArray) (hs:s.size<2^62):CallOK Tryz.prog 100 [.f (.agg [di k,di n,dS s])] (fun r o=>r=[rb (zph k n s)]∧o=[]):=by
 refine zac zar mixed (T:=Ty) (n:=38) Tryz.func100 (c:=Tryz.f100.body.getD .skip) rfl Tryz.results100 Tryz.ntmps100 Tryz.call100 ?_
 simp only[Tryz.f100,Option.getD]
 repeat'(first|with_reducible refine zab _ _ ?_|rw[zak]|simp only[zB,Nat.reduceSub,Nat.reduceEqDiff,Nat.reduceAdd,Nat.reduceMul,Nat.reduceLeDiff,Nat.reduceLT,Nat.reduceBEq,reduceCtorEq]|((first|((try refine zaz ?_);apply zaD)|(apply zaB;intro _));(solve|exact(zgd _ hs)|exact(zdG _ _)|(refine CallOK.le (zgd _ hs) ?_;exact zM)|(refine CallOK.le (zdG _ _) ?_;exact zM)|fail);try case hn=>rfl)|refine zam ?_|refine zaa (fun hb=> ?_) (fun hb=> ?_)|(refine And.intro ?_ ?_;exact zI)|refine And.intro (fun hg=> ?_) (fun hg=> ?_)|exact zC|fail)
 all_goals refine congrArg (fun b=>[rb b]) ?_
 all_goals simp only[beq_iff_eq,beq_eq_false_iff_ne,ne_eq]at*
 all_goals first
  |(exfalso;omega)
  |(subst_vars;unfold zph;generalize (s.toList==(⟨#[]⟩:ByteArray).toList)=q;generalize nameP s=p;cases q<;>cases p<;>simp;done)
  |(have e:(decide (k<1)||decide (k>6))=true:=(by simp;omega);unfold zph;rw[if_pos e])
theorem zfF (r:Req) (hr:r.ok):CallOK Tryz.prog 63 [.f (.agg (r.enc.map C.d))] (fun x o=>x=[rb (Req.may r)]∧o=[]):=by
 refine zac zar mixed (T:=Ty) (n:=21) Tryz.func63 (c:=Tryz.f63.body.getD .skip) rfl Tryz.results63 Tryz.ntmps63 Tryz.call63 ?_
 simp only[Tryz.f63,Option.getD]
 repeat'(first|with_reducible refine zab _ _ ?_|rw[zak]|simp only[zB,Nat.reduceSub,Nat.reduceEqDiff,Nat.reduceAdd,Nat.reduceMul,Nat.reduceLeDiff,Nat.reduceLT,Nat.reduceBEq,reduceCtorEq]|((first|((try refine zaz ?_);apply zaD)|(apply zaB;intro _));(solve|exact(zoE _ _ _ hr.2.2.2.2)|exact(zdG _ _)|(refine CallOK.le (zoE _ _ _ hr.2.2.2.2) ?_;exact zM)|(refine CallOK.le (zdG _ _) ?_;exact zM)|fail);try case hn=>rfl)|refine zam ?_|refine zaa (fun hb=> ?_) (fun hb=> ?_)|(refine And.intro ?_ ?_;exact zI)|refine And.intro (fun hg=> ?_) (fun hg=> ?_)|exact zC|fail)
 simp[Req.may,Bool.and_assoc]
theorem ztn:∀(a b:List UInt8),(Go.Op.bytesLess a b||a==b)= !(Go.Op.bytesLess b a)
 |[],[]=>rfl
 |[],y::ys=>rfl
 |x::xs,[]=>rfl
 |x::xs,y::ys=>by
  have ih:=ztn xs ys
  rw[Go.Op.bytesLess,Go.Op.bytesLess]
  rw[show((x::xs:List UInt8)==y::ys)=(x==y&&xs==ys) from rfl]
  have htri:x<y∨x=y∨y<x:=by
   rcases Nat.lt_trichotomy x.toNat y.toNat with h|h|h
   ·exact .inl (UInt8.lt_iff_toNat_lt.2 h)
   ·exact .inr (.inl (UInt8.toNat_inj.1 h))
   ·exact .inr (.inr (UInt8.lt_iff_toNat_lt.2 h))
  rcases htri with h|h|h
  ·have h2:¬y<x:=UInt8.lt_asymm h
   have h3:(y==x)=false:=by simp;intro e;subst e;exact absurd h (UInt8.lt_irrefl _)
   simp[h,h2,h3]
  ·subst h
   have h2:¬x<x:=UInt8.lt_irrefl _
   simp only[h2,decide_false,Bool.false_or,beq_self_eq_true,Bool.true_and]
   exact ih
  ·have h2:¬x<y:=UInt8.lt_asymm h
   have h3:(x==y)=false:=by simp;intro e;subst e;exact absurd h (UInt8.lt_irrefl _)
   simp[h,h2,h3]
def zqn (r:Reply):Bool:=decide (r.code<0)||decide (r.code>12)|| !(decide (r.session≥0)&&decide (r.session≤2305843009213693952))||decide (r.ahead<0)||decide (r.ahead>3)||decide ((r.held.length:Int)>4)||r.session==0&&decide ((r.held.length:Int)>0)
theorem zgV (r:Reply):zcC r=(!(zqn r)&&zbq (zcp r.held) 0 r.held):=by
 have h1:(decide (r.session≥0)&&decide (r.session≤2305843009213693952))= !(decide (r.session<0)||decide (r.session>zaT)):=by
  have hH:zaT=2305843009213693952:=rfl
  rw[Bool.eq_iff_iff];simp[hH]
 unfold zcC zqn
 rw[h1]
 generalize decide (r.code<0)=a1
 generalize decide (r.code>12)=a2
 generalize decide (r.session<0)=a3
 generalize decide (r.session>zaT)=a4
 generalize decide (r.ahead<0)=a5
 generalize decide (r.ahead>3)=a6
 generalize decide ((r.held.length:Int)>4)=a7
 generalize (r.session==0)=a8
 generalize decide ((r.held.length:Int)>0)=a9
 generalize zbq (zcp r.held) 0 r.held=a0
 cases a1<;>cases a2<;>cases a3<;>cases a4<;>cases a5<;>cases a6<;>first|rfl|(cases a7<;>cases a8<;>cases a9<;>rfl)
set_option maxHeartbeats 2000000 in
theorem zfP (r:Reply) (hr:zcl r):CallOK Tryz.prog 143 [.f (.agg r.lent)] (fun x o=>x=[rb (zcC r)]∧o=[]):=by
 refine zac zar mixed (T:=Ty) (n:=84) Tryz.func143 (c:=Tryz.f143.body.getD .skip) rfl Tryz.results143 Tryz.ntmps143 Tryz.call143 ?_
 simp only[Tryz.f143,Option.getD]
 obtain⟨h1,h2⟩:=hr
 have hh:=zdG r.session 0
 repeat'(first|refine zq0 ?_|exact zd0|refine zc (hh) ?_|refine zg (hh) ?_|(refine zaa ?_ ?_<;>intro hb)|(refine And.intro ?_ ?_;exact zI)|(refine And.intro ?_ ?_<;>intro hg)|exact zC|fail)
 ·rw[zgV,show zqn r=true from hb];rfl
 ·have hs:zcC r=zbq (zcp r.held) 0 r.held:=by rw[zgV,show zqn r=false from hb];rfl
  rw[hs]
  clear hb
  refine zao (τ:=Nat) (fun i=>⟨[dd, .one (.ptr ⟨1,0,1⟩ 0),dd,ai i,dd,dd,dd,dd,dd,dd,dd,dd,dd,dd,dd,dd,dd,dd,dd,dd,dd,dd,dd,dd,dd,dd,dd,dd,dd,dd,dd,dd,dd,dd,dd,dd,dd,dd,dd,dd,dd,dd,dd,dd,dd,dd,dd,dd,dd,dd,dd,dd,dd,dd,dd,dd,dd,dd,dd,dd,dd,dd,dd,dd,dd,dd,dd,dd,dd,dd,dd,dd,dd,dd,dd,dd,dd,dd,dd,dd,dd,dd,dd,dd],[(1,{next:=2,l:=[some {e:=1,var:=true,fz:=false,sz:=0,cells:=[di r.code,di r.session,di r.ahead, .lent r.held.length (zaG r.held)]},none,none,none,none]}),(4,⟨2,[]⟩)]⟩)
   (fun i=>i≤r.held.length) (fun i=>zbq (zcp r.held) i (r.held.drop i)) (fun i=>r.held.length - i) 0
   (Gh.canon [1] [4] [] zK rfl rfl) (Nat.zero_le _) ?_
  intro i hi0 hF K hK
  rw[List.drop_zero]at hF
  refine zw ?_
  refine zaa (fun hlt=> ?_) (fun hge=> ?_)
  ·have hi:i<r.held.length:=by simpa using hlt
   have hat:=zcD hi
   have hw:=zan hi (by omega)
   rw[zaR hi]at hF
   have hnm:=zgd r.held[i].name (h2 _ (List.getElem_mem hi))
   have hhg:=zdG r.held[i].token 1
   have hH:(decide (r.held[i].token≥1)&&decide (r.held[i].token≤2305843009213693952))= !(decide (r.held[i].token<1)||decide (r.held[i].token>zaT)):=by
    have hH:zaT=2305843009213693952:=rfl
    rw[Bool.eq_iff_iff];simp[hH]
   cases e0:decide ((i:Int)>0)
   ·have h0:i=0:=by simpa using e0
    have hq:zcp r.held i r.held[i]= !(!nameP r.held[i].name|| !(decide (r.held[i].token≥1)&&decide (r.held[i].token≤2305843009213693952))):=by
     unfold zcp
     have:decide (i>0)=false:=by simpa using e0
     rw[this,Bool.false_and,Bool.or_false,hH,Bool.not_not,Bool.or_assoc]
    have hp:(zaG r.held).drop ((IntKind.i64.wrap ((i:Int) - 1)).toNat*2)=r.held[i].enc++zaG (r.held.drop (i+1)):=by
     rw[←zcD hi,h0];rfl
    repeat'(first|refine zq (I hat (I hp (I e0 (I @zaW zca)))) ?_|exact zd (I hat (I hp (I e0 (I @zaW zca))))|refine zc (hnm) ?_|refine zg (hnm) ?_|refine zc (hhg) ?_|refine zg (hhg) ?_|(refine zaa ?_ ?_<;>intro hb)|(refine And.intro ?_ ?_;exact zI)|(refine And.intro ?_ ?_<;>intro hg)|exact zC|fail)
    ·rw[hq,hb,if_neg (by simp)]at hF
     rw[←hF]
    ·exact hK _ (i+1) (Gh.canon [1] [] [] (zk hw) rfl rfl) hi (by rw[zaR hi,hq,hb];rfl) (by omega)
   ·have h0:0<i:=by simpa using e0
    have hq:zcp r.held i r.held[i]= !(!nameP r.held[i].name|| !(decide (r.held[i].token≥1)&&decide (r.held[i].token≤2305843009213693952))||(Go.Op.bytesLess r.held[i].name.toList (r.held[i - 1]'(by omega)).name.toList||r.held[i].name.toList==(r.held[i - 1]'(by omega)).name.toList)):=by
     rw[ztn]
     unfold zcp zpo
     have:decide (i>0)=true:=by simpa using e0
     rw[this,List.getElem?_eq_getElem (by omega),hH,Bool.not_not]
     simp only[Bool.true_and,Option.map_some,Option.getD_some,Bool.or_assoc]
    have hp:=zcD (show i - 1<r.held.length by omega)
    have hw1:IntKind.i64.wrap ((i:Int) - 1)=((i - 1:Nat):Int):=by rw[wrap64 (by omega) (by omega)];omega
    repeat'(first|refine zq (I hat (I hp (I hw1 (I e0 (I @zaW zca))))) ?_|exact zd (I hat (I hp (I hw1 (I e0 (I @zaW zca)))))|refine zc (hnm) ?_|refine zg (hnm) ?_|refine zc (hhg) ?_|refine zg (hhg) ?_|(refine zaa ?_ ?_<;>intro hb)|(refine And.intro ?_ ?_;exact zI)|(refine And.intro ?_ ?_<;>intro hg)|exact zC|fail)
    ·rw[hq,hb,if_neg (by simp)]at hF
     rw[←hF]
    ·exact hK _ (i+1) (Gh.canon [1] [] [] (zk hw) rfl rfl) hi (by rw[zaR hi,hq,hb];rfl) (by omega)
  ·have hi:i=r.held.length:=by
    have:¬(i:Int)<r.held.length:=by simpa using hge
    omega
   rw[zcM hi]at hF
   rw[←hF]
   repeat'(first|refine zq0 ?_|exact zd0|(refine zaa ?_ ?_<;>intro hb)|(refine And.intro ?_ ?_;exact zI)|(refine And.intro ?_ ?_<;>intro hg)|exact zC|fail)
theorem zfi (m:Memo) (hr:zcl m.reply):CallOK Tryz.prog 106 [.f (.agg m.lent)] (fun x o=>x=[rb (answerB m)]∧o=[]):=by
 refine zac zar mixed (T:=Ty) (n:=21) Tryz.func106 (c:=Tryz.f106.body.getD .skip) rfl Tryz.results106 Tryz.ntmps106 Tryz.call106 ?_
 simp only[Tryz.f106,Option.getD]
 have hh:=zdG m.seq 1
 repeat'(first|refine zq0 ?_|exact zd0|refine zc (hh) ?_|refine zg (hh) ?_|refine zc (zfP m.reply hr) ?_|refine zg (zfP m.reply hr) ?_|(refine zaa ?_ ?_<;>intro hb)|(refine And.intro ?_ ?_;exact zI)|(refine And.intro ?_ ?_<;>intro hg)|exact zC|fail)
 simp[answerB,Bool.and_assoc]
theorem zgT (l:List Memo) (hl:l.length<2^62) (c q:Int):CallOK Tryz.prog 15 [.f (al l.length (zav l)), .f (ai c), .f (ai q)] (fun r o=>r=[ri (zbc l c q)]∧o=[]):=by
 refine zac zar mixed (T:=Ty) (n:=29) Tryz.func15 (c:=Tryz.f15.body.getD .skip) rfl Tryz.results15 Tryz.ntmps15 Tryz.call15 ?_
 simp only[Tryz.f15,Option.getD]
 have hla:=zhQ l hl c
 cases hf:zbe l c with
 |none=>
  rw[hf]at hla
  simp only[Option.isSome_none,Option.getD_none]at hla
  have:zbc l c q=1:=by unfold zbc;rw[hf]
  rw[this]
  repeat'(first|refine zq0 ?_|exact zd0|refine zc (hla) ?_|refine zg (hla) ?_|(refine zaa ?_ ?_<;>intro hb)|(refine And.intro ?_ ?_;exact zI)|(refine And.intro ?_ ?_<;>intro hg)|exact zC|fail)
 |some m=>
  rw[hf]at hla
  simp only[Option.isSome_some,Option.getD_some]at hla
  have:zbc l c q=if decide (m.seq<q)=true then 1 else if(m.seq==q)=true then 0 else -1:=by unfold zbc;rw[hf];simp only[decide_eq_true_eq,beq_iff_eq]
  rw[this]
  cases h1:decide (m.seq<q)
  ·cases h2:(m.seq==q)
   ·repeat'(first|refine zq (I h1 h2) ?_|exact zd (I h1 h2)|refine zc (hla) ?_|refine zg (hla) ?_|(refine zaa ?_ ?_<;>intro hb)|(refine And.intro ?_ ?_;exact zI)|(refine And.intro ?_ ?_<;>intro hg)|exact zC|fail)
   ·repeat'(first|refine zq (I h1 h2) ?_|exact zd (I h1 h2)|refine zc (hla) ?_|refine zg (hla) ?_|(refine zaa ?_ ?_<;>intro hb)|(refine And.intro ?_ ?_;exact zI)|(refine And.intro ?_ ?_<;>intro hg)|exact zC|fail)
  ·repeat'(first|refine zq h1 ?_|exact zd h1|refine zc (hla) ?_|refine zg (hla) ?_|(refine zaa ?_ ?_<;>intro hb)|(refine And.intro ?_ ?_;exact zI)|(refine And.intro ?_ ?_<;>intro hg)|exact zC|fail)
def kR (a:Memo):List Memo→Bool→List Memo
 |[],put=>if put=true then []else [a]
 |m::r,put=>if(m.client==a.client)=true then a::kR a r true else if(!put&&decide (m.client>a.client))=true then a::m::kR a r true else m::kR a r put
theorem zkV {a:Memo}:∀{l:List Memo},(∀m∈l,(m.client==a.client)=false)→kR a l true=l
 |[],_=>rfl
 |m::r,h=>by
  rw[kR,if_neg (by rw[h m List.mem_cons_self];simp),if_neg (by simp),zkV fun x hx=>h x (List.mem_cons_of_mem _ hx)]
theorem zoC {a:Memo}:∀{l:List Memo},SM l→kR a l false=if(zbe l a.client).isSome=true then l.set (zfo l a.client) a else l.take (zfo l a.client)++a::l.drop (zfo l a.client)
 |[],_=>rfl
 |m::r,hs=>by
  have hs':=List.pairwise_cons.1 hs
  rw[kR]
  by_cases h1:m.client=a.client
  ·have hp:zfo (m::r) a.client=0:=by unfold zfo;rw[zcb,if_neg (by simp;omega)]
   have hf:(zbe (m::r) a.client).isSome=true:=by unfold zbe;rw[List.find?_cons_of_pos (by simpa using h1)];rfl
   rw[if_pos (by simpa using h1),if_pos hf,hp,List.set_cons_zero,zkV fun x hx=>by have:=hs'.1 x hx;simp;omega]
  ·rw[if_neg (by simpa using h1)]
   by_cases h2:m.client>a.client
   ·have hp:zfo (m::r) a.client=0:=by unfold zfo;rw[zcb,if_neg (by simp;omega)]
    have hf:(zbe (m::r) a.client).isSome=false:=by
     rw[Option.isSome_eq_false_iff,Option.isNone_iff_eq_none]
     refine List.find?_eq_none.2 fun x hx=> ?_
     rcases List.mem_cons.1 hx with rfl|hx
     ·simpa using h1
     ·have:=hs'.1 x hx;simp;omega
    rw[if_pos (by simpa using h2),hf,if_neg (by simp),hp,zkV fun x hx=>by have:=hs'.1 x hx;simp;omega]
    rfl
   ·have hp:zfo (m::r) a.client=zfo r a.client+1:=by unfold zfo;rw[zcb,if_pos (by simp;omega)]
    have hf:zbe (m::r) a.client=zbe r a.client:=by unfold zbe;rw[List.find?_cons_of_neg (by simpa using h1)]
    rw[if_neg (by simpa using h2),zoC hs'.2,hf,hp]
    split<;>rfl
theorem zsm {a:Memo} {l:List Memo} {i:Nat} {put:Bool} (hi:i<l.length):kR a (l.drop i) put=if(l[i].client==a.client)=true then a::kR a (l.drop (i+1)) true else if(!put&&decide (l[i].client>a.client))=true then a::l[i]::kR a (l.drop (i+1)) true else l[i]::kR a (l.drop (i+1)) put:=by
 rw[List.drop_eq_getElem_cons hi,kR]
abbrev zvX (a:Memo):List C:=[di a.client,di a.seq,di a.reply.code,di a.reply.session,di a.reply.ahead, .d (.sl a.reply.held.length (zaG a.reply.held))]
set_option maxHeartbeats 2000000 in
theorem zqm (l:List Memo) (hs:SM l) (hl:l.length<2^30) (a:Memo) (ha:answerB a=true) (har:zcl a.reply) (hf:zbc l a.client a.seq=1):
  CallOK Tryz.prog 65 [.f (al l.length (zav l)), .f (.agg (a.enc.map C.d))] (fun r o=>r=[.one (.own 6 (zdJ l a).length (zav (zdJ l a)) false)]∧o=[]):=by
 refine CallOK.nil ?_
 have hk:zdJ l a=kR a l false:=by
  rw[zoC hs]
  unfold zdJ
  rw[if_neg (by rw[ha,hf];simp)]
 rw[hk]
 refine zac zar mixed (T:=Ty) (n:=79) Tryz.func65 (c:=Tryz.f65.body.getD .skip) rfl Tryz.results65 Tryz.ntmps65 Tryz.call65 ?_
 simp only[Tryz.f65,Option.getD]
 have hma:=zfi a har
 rw[ha]at hma
 have hfr:=zgT l (by omega) a.client a.seq
 rw[hf]at hfr
 have h11:((1:Int) !=1)=false:=rfl
 repeat'(first|refine zq h11 ?_|exact zd h11|refine zc (hma) ?_|refine zg (hma) ?_|refine zc (hfr) ?_|refine zg (hfr) ?_|(refine zaa ?_ ?_<;>intro hb)|(refine And.intro ?_ ?_;exact zI)|(refine And.intro ?_ ?_<;>intro hg)|exact zC|fail)
 refine zao (τ:=Nat×Bool×List Memo) (fun t=>⟨[al l.length (zav l),dd,dd, .one (.ptr ⟨3,0,1⟩ 0),dd, .one (.ptr ⟨5,0,1⟩ 0), .one (.own ⟨6,1,1⟩ 0 t.2.2.length),ab t.2.1,ai t.1,dd,dd,dd,dd,dd,dd,dd,dd,dd,dd,dd,dd,dd,dd,dd,dd,dd,dd,dd,dd,dd,dd,dd,dd,dd,dd,dd,dd,dd,dd,dd,dd,dd,dd,dd,dd,dd,dd,dd,dd,dd,dd,dd,dd,dd,dd,dd,dd,dd,dd,dd,dd,dd,dd,dd,dd,dd,dd,dd,dd,dd,dd,dd,dd,dd,dd,dd,dd,dd,dd],
   [(3,{next:=2,l:=[some {e:=1,var:=true,fz:=false,sz:=0,cells:=[di a.client,di a.seq,di a.reply.code,di a.reply.session,di a.reply.ahead, .d (.sl a.reply.held.length (zaG a.reply.held))]},none,none,none,none,none,none]}),(5,{next:=2,l:=[some {e:=1,var:=true,fz:=false,sz:=0,cells:=[di a.client,di a.seq,di a.reply.code,di a.reply.session,di a.reply.ahead, .d (.sl a.reply.held.length (zaG a.reply.held))]},none,none,none,none,none,none]}),(6,{next:=2,l:=[none,some {e:=1,var:=false,fz:=false,sz:=6,cells:=(zav t.2.2).map C.d}]}),(47,⟨2,[]⟩),(48,⟨2,[]⟩),(63,⟨2,[]⟩),(64,⟨2,[]⟩),(70,⟨2,[]⟩),(71,⟨2,[]⟩)]⟩)
  (fun t=>t.1≤l.length∧t.2.2.length≤t.1+1+1∧(t.2.1=false→t.2.2.length≤t.1)) (fun t=>t.2.2++kR a (l.drop t.1) t.2.1) (fun t=>l.length - t.1) (0,false,[])
  ((Gh.nil (i:=6) (s:=6) (sz:=6) rfl).trans (Gh.canon [3,5,6] [47,48,63,64,70,71] [] zK rfl rfl)) ⟨Nat.zero_le _,by simp,by simp⟩ ?_
 rintro⟨i,put,m⟩ ⟨hi0,hm1,hm2⟩ hF K hK
 simp only[List.drop_zero,List.nil_append]at hi0 hm1 hm2 hF hK⊢
 refine zw ?_
 refine zaa (fun hlt=> ?_) (fun hge=> ?_)
 ·have hi:i<l.length:=by simpa using hlt
  have hat:=zbu hi
  have hw:=zan hi (by omega)
  have hd:=zsm (a:=a) (put:=put) hi
  have hb1:((m.length+1)*64≤2^47)=True:=eq_true (by omega)
  have hb2:((m.length+1+1)*64≤2^47)=True:=eq_true (by omega)
  have hsA:zav m++[iD a.client,iD a.seq,iD a.reply.code,iD a.reply.session,iD a.reply.ahead, .sl a.reply.held.length (zaG a.reply.held)]=zav (m++[a]):=by rw[memosE_snoc]
  cases h1:(l[i].client==a.client)
  ·rw[if_neg (by rw[h1];simp)]at hd
   cases h2:(!put&&decide (l[i].client>a.client))
   ·rw[h2,if_neg (by simp)]at hd
    have hsB:zav m++[iD l[i].client,iD l[i].seq,iD l[i].reply.code,iD l[i].reply.session,iD l[i].reply.ahead, .sl l[i].reply.held.length (zaG l[i].reply.held)]=zav (m++[l[i]]):=by rw[memosE_snoc]
    repeat'(first|refine zq (I hat (I h1 (I h2 (I hb1 (I hsB (I @zaj zca)))))) ?_|exact zd (I hat (I h1 (I h2 (I hb1 (I hsB (I @zaj zca))))))|(refine zaa ?_ ?_<;>intro hb)|(refine And.intro ?_ ?_;exact zI)|(refine And.intro ?_ ?_<;>intro hg)|exact zC|fail)
    exact hK _ (i+1,put,m++[l[i]]) (Gh.canon [3,5,6] [] [] (zk (I hw (I @List.length_append.{0} @List.length_singleton.{0}))) rfl rfl) ⟨hi,by simp;omega,fun hp=>by have:=hm2 hp;simp;omega⟩ (by simp only;rw[hd];simp) (by simp only;omega)
   ·rw[h2,if_pos rfl]at hd
    have hsB:zav (m++[a])++[iD l[i].client,iD l[i].seq,iD l[i].reply.code,iD l[i].reply.session,iD l[i].reply.ahead, .sl l[i].reply.held.length (zaG l[i].reply.held)]=zav (m++[a]++[l[i]]):=by rw[memosE_snoc (l:=m++[a])]
    have htA:(zav (m++[a])).take ((m.length+1)*6)=zav (m++[a]):=by have:=zaU (l:=m++[a]);rwa[List.length_append,List.length_singleton]at this
    repeat'(first|refine zq (I hat (I h1 (I h2 (I hb1 (I hb2 (I hsA (I htA (I hsB (I @zaj zca))))))))) ?_|exact zd (I hat (I h1 (I h2 (I hb1 (I hb2 (I hsA (I htA (I hsB (I @zaj zca)))))))))|(refine zaa ?_ ?_<;>intro hb)|(refine And.intro ?_ ?_;exact zI)|(refine And.intro ?_ ?_<;>intro hg)|exact zC|fail)
    have hpf:put=false:=by cases put;rfl;simp at h2
    have hm3:=hm2 hpf
    exact hK _ (i+1,true,m++[a]++[l[i]]) (Gh.canon [3,5,6] [] [] (zk (I hw (I @List.length_append.{0} @List.length_singleton.{0}))) rfl rfl) ⟨hi,by simp;omega,fun hp=>by cases hp⟩ (by simp only;rw[hd];simp) (by simp only;omega)
  ·rw[if_pos h1]at hd
   repeat'(first|refine zq (I hat (I h1 (I hb1 (I hsA (I @zaj zca))))) ?_|exact zd (I hat (I h1 (I hb1 (I hsA (I @zaj zca)))))|(refine zaa ?_ ?_<;>intro hb)|(refine And.intro ?_ ?_;exact zI)|(refine And.intro ?_ ?_<;>intro hg)|exact zC|fail)
   exact hK _ (i+1,true,m++[a]) (Gh.canon [3,5,6] [] [] (zk (I hw (I @List.length_append.{0} @List.length_singleton.{0}))) rfl rfl) ⟨hi,by simp;omega,fun hp=>by cases hp⟩ (by simp only;rw[hd];simp) (by simp only;omega)
 ·have hi:i=l.length:=by
   have:¬(i:Int)<l.length:=by simpa using hge
   omega
  subst hi
  rw[List.drop_length,kR]at hF
  have hb1:((m.length+1)*64≤2^47)=True:=eq_true (by omega)
  have hsA:zav m++[iD a.client,iD a.seq,iD a.reply.code,iD a.reply.session,iD a.reply.ahead, .sl a.reply.held.length (zaG a.reply.held)]=zav (m++[a]):=by rw[memosE_snoc]
  cases put
  ·repeat'(first|refine zq (I hb1 (I hsA (I @zaj zca))) ?_|exact zd (I hb1 (I hsA (I @zaj zca)))|(refine zaa ?_ ?_<;>intro hb)|(refine And.intro ?_ ?_;exact zI)|(refine And.intro ?_ ?_<;>intro hg)|exact zC|fail)
   have hF':m++[a]=kR a l false:=hF
   rw[←hF']
   show zaY _ _∧True
   simp[zaY]
  ·repeat'(first|refine zq (I hb1 hsA) ?_|exact zd (I hb1 hsA)|(refine zaa ?_ ?_<;>intro hb)|(refine And.intro ?_ ?_;exact zI)|(refine And.intro ?_ ?_<;>intro hg)|exact zC|fail)
   have hF':m=kR a l false:=by rw[←hF];simp
   rw[←hF']
   show zaY _ _∧True
   simp[zaY]
theorem zgU (l:List Memo) (c q:Int):zbc l c q=1∨zbc l c q=0∨zbc l c q= -1:=by
 unfold zbc
 cases zbe l c with
 |none=>exact .inl rfl
 |some m=>simp only;split;exact .inl rfl;split;exact .inr (.inl rfl);exact .inr (.inr rfl)
abbrev zsn (a:Reply):RF:= .agg [.d (iD a.code), .d (iD a.session), .d (iD a.ahead), .d (.sl a.held.length (zaG a.held))]
set_option maxHeartbeats 4000000 in
theorem zoD (s:St) (h:Small s) (hr:RightS s) (r:Req) (hro:r.ok) (hdr:Req.may r=true→answerB ⟨r.client,r.seq,(zaV s r).2⟩=true) (hdo:Req.may r=true→zcl (zaV s r).2):
  CallOK Tryz.prog 34 [.f (zpm s), .f (.agg (r.enc.map C.d))]
  (fun x o=>x=[znc (za6 s r).1,zsn (za6 s r).2.1,rb (za6 s r).2.2]∧o=[]):=by
 refine CallOK.nil ?_
 refine zac zar mixed (T:=Ty) (n:=59) Tryz.func34 (c:=Tryz.f34.body.getD .skip) rfl Tryz.results34 Tryz.ntmps34 Tryz.call34 ?_
 simp only[Tryz.f34,Option.getD]
 have hmr:=zfF r hro
 have hfr:=zgT s.memos (by have:=h.memos;omega) r.client r.seq
 cases hm:Req.may r
 ·rw[hm]at hmr
  have ha:za6 s r=(s,⟨1,0,0,[]⟩,false):=by unfold za6;rw[if_pos (by rw[hm];rfl)]
  rw[ha]
  repeat'(first|refine zq0 ?_|exact zd0|refine zc (hmr) ?_|refine zg (hmr) ?_|(refine zaa ?_ ?_<;>intro hb)|(refine And.intro ?_ ?_;exact zI)|(refine And.intro ?_ ?_<;>intro hg)|exact zC|fail)
  simp[zbg,zdg,zbp,zaY]
 ·rw[hm]at hmr
  have hap:za6 s r=if decide (zbc s.memos r.client r.seq<0)=true then(s,⟨0,0,0,[]⟩,false)else if(zbc s.memos r.client r.seq==0)=true then(s,((zbe s.memos r.client).map Memo.reply).getD ⟨0,0,0,[]⟩,false)else
    ({(zaV s r).1 with memos:=zdJ (zaV s r).1.memos ⟨r.client,r.seq,(zaV s r).2⟩},(zaV s r).2,true):=by
   unfold za6
   rw[if_neg (by rw[hm];simp)]
   have hc:=zgU s.memos r.client r.seq
   rcases hc with e|e|e<;>rw[e]<;>rfl
  cases f1:decide (zbc s.memos r.client r.seq<0)
  ·rw[if_neg (by rw[f1];simp)]at hap
   cases f2:(zbc s.memos r.client r.seq==0)
   ·rw[if_neg (by rw[f2];simp)]at hap
    rw[hap]
    have hdn:=zqo s h hr r hro hm
    have hdm:=zg6 h r
    have hf1:zbc s.memos r.client r.seq=1:=by
     rcases zgU s.memos r.client r.seq with e|e|e
     ·exact e
     ·rw[e]at f2;cases f2
     ·rw[e]at f1;cases f1
    have hke:=zqm s.memos hr.ms h.memos ⟨r.client,r.seq,(zaV s r).2⟩ (hdr hm) (hdo hm) hf1
    rw[hdm]
    repeat'(first|(with_reducible first|refine zaZ 10 ?_|refine zaK 10 ?_|refine zaL 10 ?_)|refine zu (I f1 (I f2 hdm)) ?_|exact zd (I f1 (I f2 hdm))|(with_reducible first|refine zab _ _ ?_)|refine zc (hmr) ?_|refine zg (hmr) ?_|refine zc (hfr) ?_|refine zg (hfr) ?_|refine zc (hdn) ?_|refine zg (hdn) ?_|(refine zaa ?_ ?_<;>intro hb)|(refine And.intro ?_ ?_;exact zI)|(refine And.intro ?_ ?_<;>intro hg)|exact zC|fail)
    refine za3 (za0 (Gh.sealF 11 3 (.own ⟨11,4,4⟩ 0 (zaV s r).2.held.length) ?_) ?_)
    ·exact zo0
    refine zf0 ?_
    repeat'(first|(with_reducible first|refine zaZ 11 ?_|refine zaK 11 ?_|refine zaL 11 ?_)|refine zu hdm ?_|exact zd hdm|(with_reducible first|refine zab _ _ ?_)|refine zc (hke) ?_|refine zg (hke) ?_|(refine zaa ?_ ?_<;>intro hb)|(refine And.intro ?_ ?_;exact zI)|(refine And.intro ?_ ?_<;>intro hg)|exact zC|fail)
    refine za3 (za0 (Gh.sealF 10 5 (.own ⟨10,6,7⟩ 0 (zdJ s.memos ⟨r.client,r.seq,(zaV s r).2⟩).length) ?_) ?_)
    ·exact zo0
    refine zf0 ?_
    repeat'(first|refine zq hdm ?_|exact zd hdm|(refine zaa ?_ ?_<;>intro hb)|(refine And.intro ?_ ?_;exact zI)|(refine And.intro ?_ ?_<;>intro hg)|exact zC|fail)
    simp[zbg,zdg,zbp,zaY]
   ·rw[if_pos f2]at hap
    rw[hap]
    have hla:=zhQ s.memos (by have:=h.memos;omega) r.client
    repeat'(first|refine zq (I f1 f2) ?_|exact zd (I f1 f2)|refine zc (hmr) ?_|refine zg (hmr) ?_|refine zc (hfr) ?_|refine zg (hfr) ?_|refine zc (hla) ?_|refine zg (hla) ?_|(refine zaa ?_ ?_<;>intro hb)|(refine And.intro ?_ ?_;exact zI)|(refine And.intro ?_ ?_<;>intro hg)|exact zC|fail)
    cases hfm:zbe s.memos r.client with
    |none=>unfold zbc at f2;rw[hfm]at f2;cases f2
    |some m=>simp[zbg,zdg,zbp,zaY]
  ·rw[if_pos f1]at hap
   rw[hap]
   repeat'(first|refine zq f1 ?_|exact zd f1|refine zc (hmr) ?_|refine zg (hmr) ?_|refine zc (hfr) ?_|refine zg (hfr) ?_|(refine zaa ?_ ?_<;>intro hb)|(refine And.intro ?_ ?_;exact zI)|(refine And.intro ?_ ?_<;>intro hg)|exact zC|fail)
   simp[zbg,zdg,zbp,zaY]
def sameI (a b:List Int):Bool:=(a.length==b.length)&&((a.zip b).all fun p=>p.1==p.2)
theorem zkp (a b:List Int) (ha:a.length<2^62) (hb:b.length<2^62):CallOK Tryz.prog 90 [.f (al a.length (zat a)), .f (al b.length (zat b))] (fun r o=>r=[rb (sameI a b)]∧o=[]):=by
 refine zac zar mixed (T:=Ty) (n:=26) Tryz.func90 (c:=Tryz.f90.body.getD .skip) rfl Tryz.results90 Tryz.ntmps90 Tryz.call90 ?_
 simp only[Tryz.f90,Option.getD]
 cases hl:((a.length:Int) !=(b.length:Int))
 ·have hle:a.length=b.length:=by simp at hl;omega
  have hs:sameI a b=(a.zip b).all fun p=>p.1==p.2:=by unfold sameI;rw[hle];simp
  rw[hs]
  repeat'(first|refine zq hl ?_|exact zd hl|(refine zaa ?_ ?_<;>intro hb)|(refine And.intro ?_ ?_;exact zI)|(refine And.intro ?_ ?_<;>intro hg)|exact zC|fail)
  refine zao (τ:=Nat) (fun i=>⟨[al a.length (zat a),al b.length (zat b),dd,dd,dd,ai i,dd,dd,dd,dd,dd,dd,dd,dd,dd,dd,dd,dd,dd,dd,dd,dd,dd,dd,dd,dd],[]⟩)
   (fun i=>i≤a.length) (fun i=>((a.drop i).zip (b.drop i)).all fun p=>p.1==p.2) (fun i=>a.length - i) 0
   (Gh.canon [] [] [] zK rfl rfl) (Nat.zero_le _) ?_
  intro i hi0 hF K hK
  rw[List.drop_zero,List.drop_zero]at hF
  refine zw ?_
  refine zaa (fun hlt=> ?_) (fun hge=> ?_)
  ·have hi:i<a.length:=by simpa using hlt
   have hib:i<b.length:=by omega
   have hat:=zcx hi
   have hbt:=zcx hib
   have hw:=zan hi ha
   have hq:(((a.drop i).zip (b.drop i)).all fun p=>p.1==p.2)=((a[i]==b[i])&&(((a.drop (i+1)).zip (b.drop (i+1))).all fun p=>p.1==p.2)):=by
    rw[List.drop_eq_getElem_cons hi,List.drop_eq_getElem_cons hib,List.zip_cons_cons,List.all_cons]
   rw[hq]at hF
   cases he:a[i] !=b[i]
   ·have he':(a[i]==b[i])=true:=by simpa using he
    rw[he',Bool.true_and]at hq
    repeat'(first|refine zq (I hat (I hbt (I he (I @zaf zca)))) ?_|exact zd (I hat (I hbt (I he (I @zaf zca))))|(refine zaa ?_ ?_<;>intro hb)|(refine And.intro ?_ ?_;exact zI)|(refine And.intro ?_ ?_<;>intro hg)|exact zC|fail)
    exact hK _ (i+1) (Gh.canon [] [] [] (zk hw) rfl rfl) hi hq.symm (by omega)
   ·have he':(a[i]==b[i])=false:=by simpa using he
    rw[he',Bool.false_and]at hF
    repeat'(first|refine zq (I hat (I hbt (I he (I @zaf zca)))) ?_|exact zd (I hat (I hbt (I he (I @zaf zca))))|(refine zaa ?_ ?_<;>intro hb)|(refine And.intro ?_ ?_;exact zI)|(refine And.intro ?_ ?_<;>intro hg)|exact zC|fail)
    rw[←hF]
  ·have hi:i=a.length:=by
    have:¬(i:Int)<a.length:=by simpa using hge
    omega
   rw[hi,List.drop_length,List.zip_nil_left,List.all_nil]at hF
   rw[←hF]
   repeat'(first|refine zq0 ?_|exact zd0|(refine zaa ?_ ?_<;>intro hb)|(refine And.intro ?_ ?_;exact zI)|(refine And.intro ?_ ?_<;>intro hg)|exact zC|fail)
 ·have hs:sameI a b=false:=by
   have:(a.length==b.length)=false:=by simp at hl⊢;omega
   unfold sameI;rw[this];rfl
  rw[hs]
  repeat'(first|refine zq hl ?_|exact zd hl|(refine zaa ?_ ?_<;>intro hb)|(refine And.intro ?_ ?_;exact zI)|(refine And.intro ?_ ?_<;>intro hg)|exact zC|fail)
def st0:St:=⟨0,0,0,[],[],[]⟩
def rq0:Req:=⟨3,1,1,0, .empty⟩
theorem zeR:RightS st0:=zmh.1 rfl
def st1:St:=⟨0,1,0,[⟨3,1,0⟩],[],[⟨3,1,⟨0,1,0,[]⟩⟩]⟩
theorem zl8 (n:Int):(ziN n).size≤12:=by
 unfold ziN
 rcases six n with h|h|h|h|h|h<;>rw[h]<;>decide
theorem zrs {s:St} (hr:RightS s) {a:Act} (ha:zkr a):(zpf s a).ok:=by
 obtain⟨_,h1,h2,h3,h4,h5⟩:=ha
 unfold zcA at*
 have hH:zaT=2305843009213693952:=rfl
 have hsq:∀c,0≤((zbe s.memos c).getD zcm).seq∧((zbe s.memos c).getD zcm).seq≤zaT:=fun c=>by
  cases hf:zbe s.memos c with
  |none=>decide
  |some m=>
   have:=(zcI (hr.mok m (List.mem_of_find?_eq_some hf))).2.1
   simp only[Option.getD_some];omega
 have hnm:∀c,0≤((zaC s.sess c).getD zdI).num∧((zaC s.sess c).getD zdI).num≤zaT:=fun c=>by
  cases hf:zaC s.sess c with
  |none=>decide
  |some m=>
   have:=(zb2.1 (hr.sok m (List.mem_of_find?_eq_some hf)).1).2.1
   simp only[Option.getD_some];omega
 have hk:1≤zg1 a.kind∧zg1 a.kind≤6:=by unfold zg1;omega
 have hs:0≤zl9 a.kind a.session∧zl9 a.kind a.session≤7:=by unfold zl9;split<;>omega
 have hn:(zm7 a.kind a.name).size≤12:=by
  unfold zm7
  split
  ·exact zl8 _
  ·decide
 unfold zpf Req.ok i64 ztz
 simp only
 have:=hsq (a.client % 8)
 have:=hnm (a.client % 8)
 refine⟨by omega, ?_, ?_, ?_, ?_⟩
 ·split
  ·split<;>omega
  ·omega
 ·split<;>omega
 ·split
  ·omega
  ·split<;>omega
 ·split
  ·decide
  ·omega
def ztD (s:St) (a:Act):St:=(za6 (zbk s (s.time+a.time % 16) 60) (zpf (zbk s (s.time+a.time % 16) 60) a)).1
def zsI:List Act→St→St
 |[],s=>s
 |a::r,s=>zsI r (ztD s a)
structure Mk (s:St) (i:Nat):Prop where
 rt:RightS s
 num:s.num≤i
 tok:s.token≤8*i
abbrev zv1 (acts:List Act):St:=zsI (acts.take 60) st0
theorem zmU {s:St} (hr:RightS s) (h:Small s) {q:Req} (hN:s.num+1≤zaT) (hT:s.token+4≤zaT):(za6 s q).2.1.held.length<2^30:=by
 unfold za6
 split
 ·simp
 ·rename_i hm
  split
  ·simp
  ·split
   ·cases hf:zbe s.memos q.client with
    |none=>simp
    |some m=>exact(h.held m (List.mem_of_find?_eq_some hf)).1
   ·exact(zfq hr (by simpa using hm) hN hT).1
theorem zqx (l:List Int) (hl:l.length<2^30):CallOK Tryz.prog 133 [.f (al l.length (zat l))] (fun r o=>r=[rb (lineB l)]∧o=[]):=by
 refine zac zar mixed (T:=Ty) (n:=29) Tryz.func133 (c:=Tryz.f133.body.getD .skip) rfl Tryz.results133 Tryz.ntmps133 Tryz.call133 ?_
 simp only[Tryz.f133,Option.getD]
 cases h3:decide ((l.length:Int)>3)
 ·have hs:lineB l=zbq (zmi l) 0 l:=by
   unfold lineB
   rw[show decide ((l.length:Int)≤3)=true by simp at h3⊢;omega,Bool.and_true]
  rw[hs]
  repeat'(first|refine zq (I h3 @zaf) ?_|exact zd (I h3 @zaf)|(refine zaa ?_ ?_<;>intro hb)|(refine And.intro ?_ ?_;exact zI)|(refine And.intro ?_ ?_<;>intro hg)|exact zC|fail)
  refine zao (τ:=Nat) (fun i=>⟨[al l.length (zat l),dd,dd,ai i,dd,dd,dd,dd,dd,dd,dd,dd,dd,dd,dd,dd,dd,dd,dd,dd,dd,dd,dd,dd,dd,dd,dd,dd,dd],[]⟩)
   (fun i=>i≤l.length) (fun i=>zbq (zmi l) i (l.drop i)) (fun i=>l.length - i) 0
   (Gh.canon [] [] [] zK rfl rfl) (Nat.zero_le _) ?_
  intro i hi0 hF K hK
  rw[List.drop_zero]at hF
  refine zw ?_
  refine zaa (fun hlt=> ?_) (fun hge=> ?_)
  ·have hi:i<l.length:=by simpa using hlt
   have hat:=zcx hi
   have hw:=zan hi (by omega)
   rw[zaR hi]at hF
   have hcl:=zep l[i]
   have hlt2:(l.take i).length=i:=by rw[List.length_take];omega
   have htk:(zat l).take i=zat (l.take i):=zi0 (by omega)
   have hco:=zql (l.take i) (by omega) l[i]
   rw[hlt2]at hco
   have hq:zmi l i l[i]= !(!(isClient l[i])||hasI (l.take i) l[i]):=rfl
   repeat'(first|refine zq (I hat (I htk (I @zaf zca))) ?_|exact zd (I hat (I htk (I @zaf zca)))|refine zc (hcl) ?_|refine zg (hcl) ?_|refine zc (hco) ?_|refine zg (hco) ?_|(refine zaa ?_ ?_<;>intro hb)|(refine And.intro ?_ ?_;exact zI)|(refine And.intro ?_ ?_<;>intro hg)|exact zC|fail)
   ·rw[hq,hb,if_neg (by simp)]at hF
    rw[←hF]
   ·exact hK _ (i+1) (Gh.canon [] [] [] (zk hw) rfl rfl) hi (by rw[zaR hi,hq,hb];rfl) (by omega)
  ·have hi:i=l.length:=by
    have:¬(i:Int)<l.length:=by simpa using hge
    omega
   rw[zcM hi]at hF
   rw[←hF]
   repeat'(first|refine zq0 ?_|exact zd0|(refine zaa ?_ ?_<;>intro hb)|(refine And.intro ?_ ?_;exact zI)|(refine And.intro ?_ ?_<;>intro hg)|exact zC|fail)
 ·have hs:lineB l=false:=by
   unfold lineB
   rw[show decide ((l.length:Int)≤3)=false by simp at h3⊢;omega,Bool.and_false]
  rw[hs]
  repeat'(first|refine zq (I h3 @zaf) ?_|exact zd (I h3 @zaf)|(refine zaa ?_ ?_<;>intro hb)|(refine And.intro ?_ ?_;exact zI)|(refine And.intro ?_ ?_<;>intro hg)|exact zC|fail)
theorem zo3 {l:List Sess} {i:Nat} {n:Int} (h:∀k (hk:k<i) (hl:k<l.length),l[k].num≠n):numbered (l.take i) n=false:=by
 unfold numbered
 rw[List.any_eq_false]
 intro x hx
 obtain⟨k,hk,rfl⟩:=List.getElem_of_mem hx
 rw[List.length_take]at hk
 rw[List.getElem_take]
 have:=h k (by omega) (by omega)
 simpa using this
theorem zl1 {l:List Sess} {i k:Nat} {n:Int} (hk:k<i) (hl:k<l.length) (h:l[k].num=n):numbered (l.take i) n=true:=by
 unfold numbered
 rw[List.any_eq_true]
 exact⟨l[k],List.mem_take_iff_getElem.2 ⟨k,by omega,rfl⟩,by simpa using h⟩
theorem zro (p:Bool) (n r:Int):(p&& !(decide (n<1))&& !(decide (n>zaT))&& !(decide (r<0))&& !(decide (r>zaT)))= !(!p|| !(decide (n≥1)&&decide (n≤2305843009213693952))|| !(decide (r≥0)&&decide (r≤2305843009213693952))):=by
 have hH:zaT=2305843009213693952:=rfl
 rw[Bool.eq_iff_iff]
 cases p
 ·simp
 ·simp only[hH,Bool.true_and,Bool.not_true,Bool.false_or,Bool.and_eq_true,Bool.not_eq_true',Bool.or_eq_false_iff,decide_eq_false_iff_not,Bool.not_eq_false',decide_eq_true_eq]
  omega
set_option maxHeartbeats 4000000 in
theorem zqy (l:List Sess) (hl:l.length<2^30):CallOK Tryz.prog 92 [.f (al l.length (zaF l))] (fun r o=>r=[rb (sessB l)]∧o=[]):=by
 refine zac zar mixed (T:=Ty) (n:=63) Tryz.func92 (c:=Tryz.f92.body.getD .skip) rfl Tryz.results92 Tryz.ntmps92 Tryz.call92 ?_
 simp only[Tryz.f92,Option.getD]
 cases h5:decide ((l.length:Int)>5)
 ·have hs:sessB l=zbq (zhT l) 0 l:=by rw[sessB,h5];rfl
  rw[hs]
  repeat'(first|refine zq (I h5 @zai) ?_|exact zd (I h5 @zai)|(refine zaa ?_ ?_<;>intro hb)|(refine And.intro ?_ ?_;exact zI)|(refine And.intro ?_ ?_<;>intro hg)|exact zC|fail)
  refine zao (τ:=Nat) (fun i=>⟨[al l.length (zaF l),dd,dd,ai i,dd,dd,dd,dd,dd,dd,dd,dd,dd,dd,dd,dd,dd,dd,dd,dd,dd,dd,dd,dd,dd,dd,dd,dd,dd,dd,dd,dd,dd,dd,dd,dd,dd,dd,dd,dd,dd,dd,dd,dd,dd,dd,dd,dd,dd,dd,dd,dd,dd,dd,dd,dd,dd,dd,dd,dd,dd,dd,dd],[(4,⟨2,[]⟩)]⟩)
   (fun i=>i≤l.length) (fun i=>zbq (zhT l) i (l.drop i)) (fun i=>l.length - i) 0
   (Gh.canon [] [4] [] zK rfl rfl) (Nat.zero_le _) ?_
  intro i hi0 hF K hK
  simp only[List.drop_zero]at hF hK⊢
  refine zw ?_
  refine zaa (fun hlt=> ?_) (fun hge=> ?_)
  ·have hi:i<l.length:=by simpa using hlt
   have hat:=zbs hi
   have hw:=zan hi (by omega)
   rw[zaR hi]at hF
   have hcl:=zep l[i].client
   have hh1:=zc5 l[i].num 1
   have hh2:=zc5 l[i].renewed 0
   cases e0:decide ((i:Int)>0)
   ·have hq:zhT l i l[i]=(!(!(isClient l[i].client)|| !(decide (l[i].num≥1)&&decide (l[i].num≤2305843009213693952))|| !(decide (l[i].renewed≥0)&&decide (l[i].renewed≤2305843009213693952)))&& !(numbered (l.take i) l[i].num)):=by
     unfold zhT zfJ
     have h0:decide (i>0)=false:=by simpa using e0
     rw[h0,Bool.false_and,Bool.false_or]
     congr 1
     exact zro _ _ _
    have h0:i=0:=by simpa using e0
    have hp:(zaF l).drop ((IntKind.i64.wrap ((i:Int) - 1)).toNat*3)=l[i].enc++zaF (l.drop (i+1)):=by
     rw[←zbs hi,h0];rfl
    repeat'(first|refine zq (I hat (I hp (I e0 (I @zai zca)))) ?_|exact zd (I hat (I hp (I e0 (I @zai zca))))|refine zc (hcl) ?_|refine zg (hcl) ?_|refine zc (hh1) ?_|refine zg (hh1) ?_|refine zc (hh2) ?_|refine zg (hh2) ?_|(refine zaa ?_ ?_<;>intro hb)|(refine And.intro ?_ ?_;exact zI)|(refine And.intro ?_ ?_<;>intro hg)|exact zC|fail)
    ·rw[hq,hb,Bool.not_true,Bool.false_and,if_neg (by simp)]at hF
     rw[←hF]
    ·have hb1:=hb
     clear hb
     refine zao (τ:=Nat) (fun k=>⟨[al l.length (zaF l),dd,dd,ai i, .one (.ptr ⟨4,0,1⟩ 0),ai k,dd,dd,dd,dd,dd,dd,dd,dd,dd,dd,dd,dd,dd,dd,dd,dd,dd,dd,dd,dd,dd,dd,dd,dd,dd,dd,dd,dd,dd,dd,dd,dd,dd,dd,dd,dd,dd,dd,dd,dd,dd,dd,dd,dd,dd,dd,dd,dd,dd,dd,dd,dd,dd,dd,dd,dd,dd],[(4,{next:=2,l:=[some {e:=1,var:=true,fz:=false,sz:=0,cells:=[di l[i].client,di l[i].num,di l[i].renewed]},none,none,none]})]⟩)
      (fun k=>k≤i∧∀k' (hk:k'<k) (hkl:k'<l.length),l[k'].num≠l[i].num) (fun _=>()) (fun k=>i - k) 0
      (Gh.canon [4] [] [] zK rfl rfl) ⟨Nat.zero_le _,fun k' hk=>absurd hk (Nat.not_lt_zero _)⟩ ?_
     intro k ⟨k1,k2⟩ _ K2 hK2
     refine zw ?_
     refine zaa (fun hlt2=> ?_) (fun hge2=> ?_)
     ·have hk:k<i:=by simpa using hlt2
      have hat2:=zbs (show k<l.length by omega)
      have hw2:IntKind.i64.wrap ((k:Int)+1)=((k+1:Nat):Int):=zan hk (by omega)
      repeat'(first|refine zq (I hat2 (I @zai zca)) ?_|exact zd (I hat2 (I @zai zca))|(refine zaa ?_ ?_<;>intro hb)|(refine And.intro ?_ ?_;exact zI)|(refine And.intro ?_ ?_<;>intro hg)|exact zC|fail)
      ·rw[hq,hb1,zl1 hk (by omega) (by simpa using hb),Bool.not_true,Bool.and_false,if_neg (by simp)]at hF
       rw[←hF]
      ·refine hK2 _ (k+1) (Gh.canon [4] [] [] (zk hw2) rfl rfl) ⟨by omega,fun k' hk' hl'=> ?_⟩ rfl (by omega)
       rcases Nat.lt_or_ge k' k with h|h
       ·exact k2 k' h hl'
       ·have:k'=k:=by omega
        subst this
        simpa using hb
     ·have hki:k=i:=by
       have:¬(k:Int)<i:=by simpa using hge2
       omega
      rw[hki]at k2
      repeat'(first|refine zq0 ?_|exact zd0|(refine zaa ?_ ?_<;>intro hb)|(refine And.intro ?_ ?_;exact zI)|(refine And.intro ?_ ?_<;>intro hg)|exact zC|fail)
      exact hK _ (i+1) (Gh.canon [] [] [] (zk hw) rfl rfl) hi (by rw[zaR hi,hq,hb1,zo3 k2];rfl) (by omega)
   ·have hq:zhT l i l[i]=(!(!(isClient l[i].client)|| !(decide (l[i].num≥1)&&decide (l[i].num≤2305843009213693952))|| !(decide (l[i].renewed≥0)&&decide (l[i].renewed≤2305843009213693952))||decide (l[i].client≤(l[i - 1]'(by omega)).client))&& !(numbered (l.take i) l[i].num)):=by
     unfold zhT zfJ znj
     have h0:decide (i>0)=true:=by simpa using e0
     rw[h0,Bool.true_and,List.getElem?_eq_getElem (by omega),zro]
     simp only[Bool.not_or,Bool.not_not,Option.map_some,Option.getD_some,ge_iff_le,Bool.and_assoc]
    have h0:0<i:=by simpa using e0
    have hp:=zbs (show i - 1<l.length by omega)
    have hw1:IntKind.i64.wrap ((i:Int) - 1)=((i - 1:Nat):Int):=by rw[wrap64 (by omega) (by omega)];omega
    repeat'(first|refine zq (I hat (I hp (I hw1 (I e0 (I @zai zca))))) ?_|exact zd (I hat (I hp (I hw1 (I e0 (I @zai zca)))))|refine zc (hcl) ?_|refine zg (hcl) ?_|refine zc (hh1) ?_|refine zg (hh1) ?_|refine zc (hh2) ?_|refine zg (hh2) ?_|(refine zaa ?_ ?_<;>intro hb)|(refine And.intro ?_ ?_;exact zI)|(refine And.intro ?_ ?_<;>intro hg)|exact zC|fail)
    ·rw[hq,hb,Bool.not_true,Bool.false_and,if_neg (by simp)]at hF
     rw[←hF]
    ·have hb1:=hb
     clear hb
     refine zao (τ:=Nat) (fun k=>⟨[al l.length (zaF l),dd,dd,ai i, .one (.ptr ⟨4,0,1⟩ 0),ai k,dd,dd,dd,dd,dd,dd,dd,dd,dd,dd,dd,dd,dd,dd,dd,dd,dd,dd,dd,dd,dd,dd,dd,dd,dd,dd,dd,dd,dd,dd,dd,dd,dd,dd,dd,dd,dd,dd,dd,dd,dd,dd,dd,dd,dd,dd,dd,dd,dd,dd,dd,dd,dd,dd,dd,dd,dd],[(4,{next:=2,l:=[some {e:=1,var:=true,fz:=false,sz:=0,cells:=[di l[i].client,di l[i].num,di l[i].renewed]},none,none,none]})]⟩)
      (fun k=>k≤i∧∀k' (hk:k'<k) (hkl:k'<l.length),l[k'].num≠l[i].num) (fun _=>()) (fun k=>i - k) 0
      (Gh.canon [4] [] [] zK rfl rfl) ⟨Nat.zero_le _,fun k' hk=>absurd hk (Nat.not_lt_zero _)⟩ ?_
     intro k ⟨k1,k2⟩ _ K2 hK2
     refine zw ?_
     refine zaa (fun hlt2=> ?_) (fun hge2=> ?_)
     ·have hk:k<i:=by simpa using hlt2
      have hat2:=zbs (show k<l.length by omega)
      have hw2:IntKind.i64.wrap ((k:Int)+1)=((k+1:Nat):Int):=zan hk (by omega)
      repeat'(first|refine zq (I hat2 (I @zai zca)) ?_|exact zd (I hat2 (I @zai zca))|(refine zaa ?_ ?_<;>intro hb)|(refine And.intro ?_ ?_;exact zI)|(refine And.intro ?_ ?_<;>intro hg)|exact zC|fail)
      ·rw[hq,hb1,zl1 hk (by omega) (by simpa using hb),Bool.not_true,Bool.and_false,if_neg (by simp)]at hF
       rw[←hF]
      ·refine hK2 _ (k+1) (Gh.canon [4] [] [] (zk hw2) rfl rfl) ⟨by omega,fun k' hk' hl'=> ?_⟩ rfl (by omega)
       rcases Nat.lt_or_ge k' k with h|h
       ·exact k2 k' h hl'
       ·have:k'=k:=by omega
        subst this
        simpa using hb
     ·have hki:k=i:=by
       have:¬(k:Int)<i:=by simpa using hge2
       omega
      rw[hki]at k2
      repeat'(first|refine zq0 ?_|exact zd0|(refine zaa ?_ ?_<;>intro hb)|(refine And.intro ?_ ?_;exact zI)|(refine And.intro ?_ ?_<;>intro hg)|exact zC|fail)
      exact hK _ (i+1) (Gh.canon [] [] [] (zk hw) rfl rfl) hi (by rw[zaR hi,hq,hb1,zo3 k2];rfl) (by omega)
  ·have hi:i=l.length:=by
    have:¬(i:Int)<l.length:=by simpa using hge
    omega
   rw[zcM hi]at hF
   rw[←hF]
   repeat'(first|refine zq0 ?_|exact zd0|(refine zaa ?_ ?_<;>intro hb)|(refine And.intro ?_ ?_;exact zI)|(refine And.intro ?_ ?_<;>intro hg)|exact zC|fail)
 ·have hs:sessB l=false:=by rw[sessB,h5];rfl
  rw[hs]
  repeat'(first|refine zq (I h5 @zai) ?_|exact zd (I h5 @zai)|(refine zaa ?_ ?_<;>intro hb)|(refine And.intro ?_ ?_;exact zI)|(refine And.intro ?_ ?_<;>intro hg)|exact zC|fail)
theorem zo4 {l:List Lk} {i:Nat} {n:Int} (h:∀k (hk:k<i) (hl:k<l.length),l[k].token≠n):((l.take i).any fun o=>o.token==n)=false:=by
 rw[List.any_eq_false]
 intro x hx
 obtain⟨k,hk,rfl⟩:=List.getElem_of_mem hx
 rw[List.length_take]at hk
 rw[List.getElem_take]
 have:=h k (by omega) (by omega)
 simpa using this
theorem zl2 {l:List Lk} {i k:Nat} {n:Int} (hk:k<i) (hl:k<l.length) (h:l[k].token=n):((l.take i).any fun o=>o.token==n)=true:=by
 rw[List.any_eq_true]
 exact⟨l[k],List.mem_take_iff_getElem.2 ⟨k,by omega,rfl⟩,by simpa using h⟩
theorem ztu (a b:List UInt8):(!(Go.Op.bytesLess b a))=(Go.Op.bytesLess a b||a==b):=by
 cases h:Go.Op.bytesLess b a
 ·cases h2:Go.Op.bytesLess a b
  ·rw[zk6 h2 h];simp
  ·rfl
 ·rw[zpp h]
  cases h3:a==b
  ·rfl
  ·rw[show a=b by simpa using h3,zgp]at h;cases h
theorem zrp (p L H X:Bool) (h t:Int):(p&& !(decide (h<0))&& !(decide (h≥8))&& !(decide (t<1))&& !(decide (t>zaT))&& !(!L||H||X))= !(!p|| !(isClient h)|| !(decide (t≥1)&&decide (t≤2305843009213693952))|| !L||H||X):=by
 have hH:zaT=2305843009213693952:=rfl
 unfold isClient
 rw[Bool.eq_iff_iff]
 cases p<;>cases L<;>cases H<;>cases X<;>simp[hH]
 omega
set_option maxHeartbeats 4000000 in
theorem zo5 (l:List Lk) (hl:l.length<2^30) (hll:∀k∈l,k.line.length<2^30∧k.name.size<2^62):CallOK Tryz.prog 93 [.f (al l.length (zah l))] (fun r o=>r=[rb (lockB l)]∧o=[]):=by
 refine zac zar mixed (T:=Ty) (n:=76) Tryz.func93 (c:=Tryz.f93.body.getD .skip) rfl Tryz.results93 Tryz.ntmps93 Tryz.call93 ?_
 simp only[Tryz.f93,Option.getD]
 cases h5:decide ((l.length:Int)>4)
 ·have hs:lockB l=zbq (zhV l) 0 l:=by
   unfold lockB
   rw[show decide ((l.length:Int)≤4)=true by simp at h5⊢;omega,Bool.and_true]
  rw[hs]
  repeat'(first|refine zq (I h5 @zad) ?_|exact zd (I h5 @zad)|(refine zaa ?_ ?_<;>intro hb)|(refine And.intro ?_ ?_;exact zI)|(refine And.intro ?_ ?_<;>intro hg)|exact zC|fail)
  refine zao (τ:=Nat) (fun i=>⟨[al l.length (zah l),dd,dd,ai i,dd,dd,dd,dd,dd,dd,dd,dd,dd,dd,dd,dd,dd,dd,dd,dd,dd,dd,dd,dd,dd,dd,dd,dd,dd,dd,dd,dd,dd,dd,dd,dd,dd,dd,dd,dd,dd,dd,dd,dd,dd,dd,dd,dd,dd,dd,dd,dd,dd,dd,dd,dd,dd,dd,dd,dd,dd,dd,dd,dd,dd,dd,dd,dd,dd,dd,dd,dd,dd,dd,dd,dd],[(4,⟨2,[]⟩)]⟩)
   (fun i=>i≤l.length) (fun i=>zbq (zhV l) i (l.drop i)) (fun i=>l.length - i) 0
   (Gh.canon [] [4] [] zK rfl rfl) (Nat.zero_le _) ?_
  intro i hi0 hF K hK
  simp only[List.drop_zero]at hF hK⊢
  refine zw ?_
  refine zaa (fun hlt=> ?_) (fun hge=> ?_)
  ·have hi:i<l.length:=by simpa using hlt
   have hat:=zaJ hi
   obtain⟨hk1,hk2⟩:=hll _ (List.getElem_mem hi)
   have hw:=zan hi (by omega)
   rw[zaR hi]at hF
   have hnm:=zgd l[i].name hk2
   have hlr:=zqx l[i].line hk1
   have hcl:=zep l[i].holder
   have hlc:=zql l[i].line (by omega) l[i].holder
   have hh1:=zc5 l[i].token 1
   cases e0:decide ((i:Int)>0)
   ·have hq:zhV l i l[i]=(!(!(nameP l[i].name)|| !(isClient l[i].holder)|| !(decide (l[i].token≥1)&&decide (l[i].token≤2305843009213693952))|| !(lineB l[i].line)||hasI l[i].line l[i].holder)&& !((l.take i).any fun o=>o.token==l[i].token)):=by
     unfold zhV zmj
     have h0:decide (i>0)=false:=by simpa using e0
     rw[h0,Bool.false_and]
     congr 1
     rw[zrp,Bool.or_false]
    have h0:i=0:=by simpa using e0
    have hp:(zah l).drop ((IntKind.i64.wrap ((i:Int) - 1)).toNat*4)=l[i].enc++zah (l.drop (i+1)):=by
     rw[←zaJ hi,h0];rfl
    repeat'(first|refine zq (I hat (I hp (I e0 (I @zad zca)))) ?_|exact zd (I hat (I hp (I e0 (I @zad zca))))|refine zc (hnm) ?_|refine zg (hnm) ?_|refine zc (hlr) ?_|refine zg (hlr) ?_|refine zc (hcl) ?_|refine zg (hcl) ?_|refine zc (hlc) ?_|refine zg (hlc) ?_|refine zc (hh1) ?_|refine zg (hh1) ?_|(refine zaa ?_ ?_<;>intro hb)|(refine And.intro ?_ ?_;exact zI)|(refine And.intro ?_ ?_<;>intro hg)|exact zC|fail)
    ·rw[hq,hb,Bool.not_true,Bool.false_and,if_neg (by simp)]at hF
     rw[←hF]
    ·have hb1:=hb
     clear hb
     refine zao (τ:=Nat) (fun k=>⟨[al l.length (zah l),dd,dd,ai i, .one (.ptr ⟨4,0,1⟩ 0),ai k,dd,dd,dd,dd,dd,dd,dd,dd,dd,dd,dd,dd,dd,dd,dd,dd,dd,dd,dd,dd,dd,dd,dd,dd,dd,dd,dd,dd,dd,dd,dd,dd,dd,dd,dd,dd,dd,dd,dd,dd,dd,dd,dd,dd,dd,dd,dd,dd,dd,dd,dd,dd,dd,dd,dd,dd,dd,dd,dd,dd,dd,dd,dd,dd,dd,dd,dd,dd,dd,dd],[(4,{next:=2,l:=[some {e:=1,var:=true,fz:=false,sz:=0,cells:=[.d (sD l[i].name),di l[i].holder,di l[i].token, .d (.sl l[i].line.length (zat l[i].line))]},none,none,none,none]})]⟩)
      (fun k=>k≤i∧∀k' (hk:k'<k) (hkl:k'<l.length),l[k'].token≠l[i].token) (fun _=>()) (fun k=>i - k) 0
      (Gh.canon [4] [] [] zK rfl rfl) ⟨Nat.zero_le _,fun k' hk=>absurd hk (Nat.not_lt_zero _)⟩ ?_
     intro k ⟨k1,k2⟩ _ K2 hK2
     refine zw ?_
     refine zaa (fun hlt2=> ?_) (fun hge2=> ?_)
     ·have hk:k<i:=by simpa using hlt2
      have hat2:=zaJ (show k<l.length by omega)
      have hw2:IntKind.i64.wrap ((k:Int)+1)=((k+1:Nat):Int):=zan hk (by omega)
      repeat'(first|refine zq (I hat2 (I @zad zca)) ?_|exact zd (I hat2 (I @zad zca))|(refine zaa ?_ ?_<;>intro hb)|(refine And.intro ?_ ?_;exact zI)|(refine And.intro ?_ ?_<;>intro hg)|exact zC|fail)
      ·rw[hq,hb1,zl2 hk (by omega) (by simpa using hb),Bool.not_true,Bool.and_false,if_neg (by simp)]at hF
       rw[←hF]
      ·refine hK2 _ (k+1) (Gh.canon [4] [] [] (zk hw2) rfl rfl) ⟨by omega,fun k' hk' hl'=> ?_⟩ rfl (by omega)
       rcases Nat.lt_or_ge k' k with h|h
       ·exact k2 k' h hl'
       ·have:k'=k:=by omega
        subst this
        simpa using hb
     ·have hki:k=i:=by
       have:¬(k:Int)<i:=by simpa using hge2
       omega
      rw[hki]at k2
      repeat'(first|refine zq0 ?_|exact zd0|(refine zaa ?_ ?_<;>intro hb)|(refine And.intro ?_ ?_;exact zI)|(refine And.intro ?_ ?_<;>intro hg)|exact zC|fail)
      exact hK _ (i+1) (Gh.canon [] [] [] (zk hw) rfl rfl) hi (by rw[zaR hi,hq,hb1,zo4 k2];rfl) (by omega)
   ·have hq:zhV l i l[i]=(!(!(nameP l[i].name)|| !(isClient l[i].holder)|| !(decide (l[i].token≥1)&&decide (l[i].token≤2305843009213693952))|| !(lineB l[i].line)||hasI l[i].line l[i].holder||(Go.Op.bytesLess l[i].name.toList (l[i - 1]'(by omega)).name.toList||l[i].name.toList==(l[i - 1]'(by omega)).name.toList))&& !((l.take i).any fun o=>o.token==l[i].token)):=by
     unfold zhV zmj znk
     have h0:decide (i>0)=true:=by simpa using e0
     rw[h0,Bool.true_and,List.getElem?_eq_getElem (by omega)]
     congr 1
     rw[zrp,←ztu]
     rfl
    have h0:0<i:=by simpa using e0
    have hp:=zaJ (show i - 1<l.length by omega)
    have hw1:IntKind.i64.wrap ((i:Int) - 1)=((i - 1:Nat):Int):=by rw[wrap64 (by omega) (by omega)];omega
    repeat'(first|refine zq (I hat (I hp (I hw1 (I e0 (I @zad zca))))) ?_|exact zd (I hat (I hp (I hw1 (I e0 (I @zad zca)))))|refine zc (hnm) ?_|refine zg (hnm) ?_|refine zc (hlr) ?_|refine zg (hlr) ?_|refine zc (hcl) ?_|refine zg (hcl) ?_|refine zc (hlc) ?_|refine zg (hlc) ?_|refine zc (hh1) ?_|refine zg (hh1) ?_|(refine zaa ?_ ?_<;>intro hb)|(refine And.intro ?_ ?_;exact zI)|(refine And.intro ?_ ?_<;>intro hg)|exact zC|fail)
    ·rw[hq,hb,Bool.not_true,Bool.false_and,if_neg (by simp)]at hF
     rw[←hF]
    ·have hb1:=hb
     clear hb
     refine zao (τ:=Nat) (fun k=>⟨[al l.length (zah l),dd,dd,ai i, .one (.ptr ⟨4,0,1⟩ 0),ai k,dd,dd,dd,dd,dd,dd,dd,dd,dd,dd,dd,dd,dd,dd,dd,dd,dd,dd,dd,dd,dd,dd,dd,dd,dd,dd,dd,dd,dd,dd,dd,dd,dd,dd,dd,dd,dd,dd,dd,dd,dd,dd,dd,dd,dd,dd,dd,dd,dd,dd,dd,dd,dd,dd,dd,dd,dd,dd,dd,dd,dd,dd,dd,dd,dd,dd,dd,dd,dd,dd],[(4,{next:=2,l:=[some {e:=1,var:=true,fz:=false,sz:=0,cells:=[.d (sD l[i].name),di l[i].holder,di l[i].token, .d (.sl l[i].line.length (zat l[i].line))]},none,none,none,none]})]⟩)
      (fun k=>k≤i∧∀k' (hk:k'<k) (hkl:k'<l.length),l[k'].token≠l[i].token) (fun _=>()) (fun k=>i - k) 0
      (Gh.canon [4] [] [] zK rfl rfl) ⟨Nat.zero_le _,fun k' hk=>absurd hk (Nat.not_lt_zero _)⟩ ?_
     intro k ⟨k1,k2⟩ _ K2 hK2
     refine zw ?_
     refine zaa (fun hlt2=> ?_) (fun hge2=> ?_)
     ·have hk:k<i:=by simpa using hlt2
      have hat2:=zaJ (show k<l.length by omega)
      have hw2:IntKind.i64.wrap ((k:Int)+1)=((k+1:Nat):Int):=zan hk (by omega)
      repeat'(first|refine zq (I hat2 (I @zad zca)) ?_|exact zd (I hat2 (I @zad zca))|(refine zaa ?_ ?_<;>intro hb)|(refine And.intro ?_ ?_;exact zI)|(refine And.intro ?_ ?_<;>intro hg)|exact zC|fail)
      ·rw[hq,hb1,zl2 hk (by omega) (by simpa using hb),Bool.not_true,Bool.and_false,if_neg (by simp)]at hF
       rw[←hF]
      ·refine hK2 _ (k+1) (Gh.canon [4] [] [] (zk hw2) rfl rfl) ⟨by omega,fun k' hk' hl'=> ?_⟩ rfl (by omega)
       rcases Nat.lt_or_ge k' k with h|h
       ·exact k2 k' h hl'
       ·have:k'=k:=by omega
        subst this
        simpa using hb
     ·have hki:k=i:=by
       have:¬(k:Int)<i:=by simpa using hge2
       omega
      rw[hki]at k2
      repeat'(first|refine zq0 ?_|exact zd0|(refine zaa ?_ ?_<;>intro hb)|(refine And.intro ?_ ?_;exact zI)|(refine And.intro ?_ ?_<;>intro hg)|exact zC|fail)
      exact hK _ (i+1) (Gh.canon [] [] [] (zk hw) rfl rfl) hi (by rw[zaR hi,hq,hb1,zo4 k2];rfl) (by omega)
  ·have hi:i=l.length:=by
    have:¬(i:Int)<l.length:=by simpa using hge
    omega
   rw[zcM hi]at hF
   rw[←hF]
   repeat'(first|refine zq0 ?_|exact zd0|(refine zaa ?_ ?_<;>intro hb)|(refine And.intro ?_ ?_;exact zI)|(refine And.intro ?_ ?_<;>intro hg)|exact zC|fail)
 ·have hs:lockB l=false:=by
   unfold lockB
   rw[show decide ((l.length:Int)≤4)=false by simp at h5⊢;omega,Bool.and_false]
  rw[hs]
  repeat'(first|refine zq (I h5 @zad) ?_|exact zd (I h5 @zad)|(refine zaa ?_ ?_<;>intro hb)|(refine And.intro ?_ ?_;exact zI)|(refine And.intro ?_ ?_<;>intro hg)|exact zC|fail)
end Go.Proofs.YtngleemijkaeoaaGreat
