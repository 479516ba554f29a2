import Derived.Test.YtliimajkpggbhaaGreatK9
import Derived.Test.YtliimajkpggbhaaGreatX
namespace Go.Proofs.YtliimajkpggbhaaGreat
open Go.Pk Tryz
set_option maxRecDepth 100000
set_option linter.unusedSimpArgs false
set_option linter.unusedVariables false
theorem zfv (v a:Int):CallOK prog 82 [.f (ai v), .f (ai a)] (fun r o=>r=[rb (decide (v≥a)&&decide (v≤2305843009213693952))]∧o=[]):=by
 refine zh func82 results82 ntmps82 call82 ?_
 simp only[f82,Option.getD]
 exact zW0 trivial
theorem zmZ (s:ByteArray) (hs:s.size<2^62):CallOK prog 132 [.f (ast s)] (fun r o=>r=[rb (nameP s)]∧o=[]):=by
 refine zh func132 results132 ntmps132 call132 ?_
 simp only[f132,Option.getD]
 refine zw ?_
 refine zaa (fun hb=> ?_) (fun hb=> ?_)
 ·refine zw ?_
  have:nameP s=false:=by
   unfold nameP
   rw[Bool.and_eq_false_iff];right
   simp only[Bool.or_eq_true,decide_eq_true_eq]at hb
   simp only[Bool.and_eq_false_iff,decide_eq_false_iff_not]
   omega
  rw[this]
 have hsz:(decide ((s.size:Int)≥1)&&decide ((s.size:Int)≤12))=true:=by
  simp only[Bool.or_eq_false_iff,decide_eq_false_iff_not]at hb
  simp only[Bool.and_eq_true,decide_eq_true_eq]
  omega
 refine zw ?_
 refine zjk Ty prog (τ:=Nat) (fun i=>⟨(ast s::dd::ab false::ai i::zBJ []),[]⟩) (fun i=>i≤s.size∧∀j,j<i→zh2 (s.data.getD j 0)=true) (fun i=>s.size - i) 0 ?_ ⟨Nat.zero_le _,fun j hj=>absurd hj (Nat.not_lt_zero j)⟩ ?_
 ·refine Gh.fgt ?_
  simp only[ddE,zbw,zbx,zb4,Int.natCast_zero]
 intro i ⟨h1,h2⟩ K hK
 refine zw ?_
 refine zaa (fun hlt=> ?_) (fun hge=> ?_)
 ·have hi:i<s.size:=by simpa using hlt
  refine zw ?_
  refine⟨⟨Int.natCast_nonneg i,by omega⟩, ?_⟩
  refine⟨zqT ?_, ?_⟩
  ·simp_all;omega
  have hok:zh2 (s.data.getD i 0)= !((decide (((s.data.getD i 0).toNat:Int)<97)||decide (((s.data.getD i 0).toNat:Int)>122))&&(decide (((s.data.getD i 0).toNat:Int)<48)||decide (((s.data.getD i 0).toNat:Int)>57))&&(((s.data.getD i 0).toNat:Int) !=45)):=rfl
  generalize ((s.data.getD i 0).toNat:Int)=c at hok⊢
  refine zaa (fun hb2=> ?_) (fun hb2=> ?_)
  ·refine zw ?_
   have hn:nameP s=false:=by
    unfold nameP
    rw[show((List.range s.size).all fun j=>zh2 (s.data.getD j 0))=false from List.all_eq_false.2 ⟨i,List.mem_range.2 hi,by rw[hok];revert hb2;simp;omega⟩,Bool.false_and]
   rw[hn]
  ·refine zw ?_
   refine hK _ (i+1) (Gh.fgt ?_) ⟨hi,fun j hj=> ?_⟩ (by omega)
   ·simp only[zai hi (by omega),ddE,zbw,zbx,zb4]
   ·rcases Nat.lt_or_ge j i with h|h
    ·exact h2 j h
    ·rw[show j=i from by omega,hok];revert hb2;simp;omega
 ·refine zw ?_
  have hi:i=s.size:=by
   have:¬(i:Int)<s.size:=by simpa using hge
   omega
  have hn:nameP s=true:=by
   unfold nameP
   rw[show((List.range s.size).all fun j=>zh2 (s.data.getD j 0))=true from List.all_eq_true.2 fun j hj=>h2 j (by rw[hi];exact List.mem_range.1 hj),Bool.true_and,hsz]
  rw[hn]
theorem zu6 (k n:Int) (s:ByteArray) (hs:s.size<2^62):CallOK prog 83 [.f (.agg [di k,di n,dS s])] (fun r o=>r=[rb (zk1 k n s)]∧o=[]):=by
 refine zh func83 results83 ntmps83 call83 ?_
 simp only[f83,Option.getD]
 repeat'(first|exact zC|refine za0 ?_|((first|((try refine zaV ?_);apply zaX)|(apply zba;intro _));(solve|exact(zmZ _ hs)|(refine CallOK.le (zmZ _ hs) ?_;exact zM)|fail);try case hn=>rfl)|((first|((try refine zaV ?_);apply zaX)|(apply zba;intro _));(solve|exact(zfv _ _)|(refine CallOK.le (zfv _ _) ?_;exact zM)|fail);try case hn=>rfl)|(apply zaa<;>intro hb)|(apply I;exact zI)|(apply I<;>intro hg))
 all_goals refine congrArg (fun b=>[rb b]) ?_
 all_goals simp only[beq_iff_eq,beq_eq_false_iff_ne,ne_eq]at*
 all_goals first
  |(exfalso;omega)
  |(subst_vars;unfold zk1;generalize (s.toList==(⟨#[]⟩:ByteArray).toList)=q;generalize nameP s=p;cases q<;>cases p<;>simp;done)
  |(have e:(decide (k<1)||decide (k>6))=true:=(by simp;omega);unfold zk1;rw[if_pos e])
theorem zsm (r:Req) (hr:r.ok):CallOK prog 43 [.f (.agg (r.enc.map C.d))] (fun x o=>x=[rb (Req.may r)]∧o=[]):=by
 refine zh func43 results43 ntmps43 call43 ?_
 simp only[f43,Option.getD]
 repeat'(first|exact zC|refine za0 ?_|((first|((try refine zaV ?_);apply zaX)|(apply zba;intro _));(solve|exact(zu6 _ _ _ hr.2.2.2.2)|(refine CallOK.le (zu6 _ _ _ hr.2.2.2.2) ?_;exact zM)|fail);try case hn=>rfl)|((first|((try refine zaV ?_);apply zaX)|(apply zba;intro _));(solve|exact(zfv _ _)|(refine CallOK.le (zfv _ _) ?_;exact zM)|fail);try case hn=>rfl)|(apply zaa<;>intro hb)|(apply I;exact zI)|(apply I<;>intro hg))
 simp[Req.may,Bool.and_assoc]
theorem zBu:∀(a b:List UInt8),(Go.Op.bytesLess a b||a==b)= !(Go.Op.bytesLess b a)
 |[],[]=>rfl
 |[],y::ys=>rfl
 |x::xs,[]=>rfl
 |x::xs,y::ys=>by
  have ih:=zBu xs ys
  rw[Go.Op.bytesLess,Go.Op.bytesLess]
  rw[show((x::xs:List UInt8)==y::ys)=(x==y&&xs==ys) from rfl]
  have htri:x<y∨x=y∨y<x:=by
   rcases Nat.lt_trichotomy x.toNat y.toNat with h|h|h
   ·exact .inl (UInt8.lt_iff_toNat_lt.2 h)
   ·exact .inr (.inl (UInt8.toNat_inj.1 h))
   ·exact .inr (.inr (UInt8.lt_iff_toNat_lt.2 h))
  rcases htri with h|h|h
  ·have h2:¬y<x:=UInt8.lt_asymm h
   have h3:(y==x)=false:=by simp;intro e;subst e;exact absurd h (UInt8.lt_irrefl _)
   simp[h,h2,h3]
  ·subst h
   have h2:¬x<x:=UInt8.lt_irrefl _
   simp only[h2,decide_false,Bool.false_or,beq_self_eq_true,Bool.true_and]
   exact ih
  ·have h2:¬x<y:=UInt8.lt_asymm h
   have h3:(x==y)=false:=by simp;intro e;subst e;exact absurd h (UInt8.lt_irrefl _)
   simp[h,h2,h3]
def zxo (r:Reply):Bool:=decide (r.code<0)||decide (r.code>12)|| !(decide (r.session≥0)&&decide (r.session≤2305843009213693952))||decide (r.ahead<0)||decide (r.ahead>3)||decide ((r.held.length:Int)>4)||r.session==0&&decide ((r.held.length:Int)>0)
theorem zks (r:Reply):zbR r=(!(zxo r)&&zbN (zcG r.held) 0 r.held):=by
 have h1:(decide (r.session≥0)&&decide (r.session≤2305843009213693952))= !(decide (r.session<0)||decide (r.session>zbE)):=by
  have hH:zbE=2305843009213693952:=rfl
  rw[Bool.eq_iff_iff];simp[hH]
 unfold zbR zxo
 rw[h1]
 generalize decide (r.code<0)=a1
 generalize decide (r.code>12)=a2
 generalize decide (r.session<0)=a3
 generalize decide (r.session>zbE)=a4
 generalize decide (r.ahead<0)=a5
 generalize decide (r.ahead>3)=a6
 generalize decide ((r.held.length:Int)>4)=a7
 generalize (r.session==0)=a8
 generalize decide ((r.held.length:Int)>0)=a9
 generalize zbN (zcG r.held) 0 r.held=a0
 cases a1<;>cases a2<;>cases a3<;>cases a4<;>cases a5<;>cases a6<;>first|rfl|(cases a7<;>cases a8<;>cases a9<;>rfl)
set_option maxHeartbeats 2000000 in
theorem zoG (r:Reply) (hr:zcu r):CallOK prog 84 [.f (.agg r.lent)] (fun x o=>x=[rb (zbR r)]∧o=[]):=by
 refine zh func84 results84 ntmps84 call84 ?_
 simp only[f84,Option.getD]
 obtain⟨h1,h2⟩:=hr
 have hh:=zfv r.session 0
 repeat'(first|exact zC|refine zq0 ?_|refine zx (hh) ?_|(apply zaa<;>intro hb)|(apply I;exact zI)|(apply I<;>intro hg))
 ·rw[zks,show zxo r=true from hb];rfl
 ·have hs:zbR r=zbN (zcG r.held) 0 r.held:=by rw[zks,show zxo r=false from hb];rfl
  rw[hs]
  clear hb
  refine zaf (τ:=Nat) (fun i=>⟨(dd::ptq 1::dd::ai i::zec (zec [])),[(1,⟨2,[obq 1 [di r.code,di r.session,di r.ahead, .lent r.held.length (zaK r.held)],none,none,none,none]⟩),(4,⟨2,[]⟩)]⟩)
   (fun i=>i≤r.held.length) (fun i=>zbN (zcG r.held) i (r.held.drop i)) (fun i=>r.held.length - i) 0
   (Gh.canon [1] [4] [] zK rfl rfl) (Nat.zero_le _) ?_
  intro i hi0 hF K hK
  rw[List.drop_zero]at hF
  refine zw ?_
  refine zaa (fun hlt=> ?_) (fun hge=> ?_)
  ·have hi:i<r.held.length:=by simpa using hlt
   have hat:=zcD hi
   have hw:=zai hi (by omega)
   rw[za2 hi]at hF
   have hnm:=zmZ r.held[i].name (h2 _ (List.getElem_mem hi))
   have hhg:=zfv r.held[i].token 1
   have hH:(decide (r.held[i].token≥1)&&decide (r.held[i].token≤2305843009213693952))= !(decide (r.held[i].token<1)||decide (r.held[i].token>zbE)):=by
    have hH:zbE=2305843009213693952:=rfl
    rw[Bool.eq_iff_iff];simp[hH]
   cases e0:decide ((i:Int)>0)
   ·have h0:i=0:=by simpa using e0
    have hq:zcG r.held i r.held[i]= !(!nameP r.held[i].name|| !(decide (r.held[i].token≥1)&&decide (r.held[i].token≤2305843009213693952))):=by
     unfold zcG
     have:decide (i>0)=false:=by simpa using e0
     rw[this,Bool.false_and,Bool.or_false,hH,Bool.not_not,Bool.or_assoc]
    have hp:(zaK r.held).drop ((IntKind.i64.wrap ((i:Int) - 1)).toNat*2)=r.held[i].enc++zaK (r.held.drop (i+1)):=by
     rw[←zcD hi,h0];rfl
    repeat'(first|exact zC|refine zq (I hat (I hp (I e0 (I @zas zca)))) ?_|refine zx (hnm) ?_|refine zx (hhg) ?_|(apply zaa<;>intro hb)|(apply I;exact zI)|(apply I<;>intro hg))
    ·rw[hq,hb,if_neg (by simp)]at hF
     rw[←hF]
    ·exact hK _ (i+1) (Gh.canon [1] [] [] (zk hw) rfl rfl) hi (by rw[za2 hi,hq,hb];rfl) (by omega)
   ·have h0:0<i:=by simpa using e0
    have hq:zcG r.held i r.held[i]= !(!nameP r.held[i].name|| !(decide (r.held[i].token≥1)&&decide (r.held[i].token≤2305843009213693952))||(Go.Op.bytesLess r.held[i].name.toList (r.held[i - 1]'(by omega)).name.toList||r.held[i].name.toList==(r.held[i - 1]'(by omega)).name.toList)):=by
     rw[zBu]
     unfold zcG zsg
     have:decide (i>0)=true:=by simpa using e0
     rw[this,List.getElem?_eq_getElem (by omega),hH,Bool.not_not]
     simp only[Bool.true_and,Option.map_some,Option.getD_some,Bool.or_assoc]
    have hp:=zcD (show i - 1<r.held.length by omega)
    have hw1:IntKind.i64.wrap ((i:Int) - 1)=((i - 1:Nat):Int):=by rw[wrap64 (by omega) (by omega)];omega
    repeat'(first|exact zC|refine zq (I hat (I hp (I hw1 (I e0 (I @zas zca))))) ?_|refine zx (hnm) ?_|refine zx (hhg) ?_|(apply zaa<;>intro hb)|(apply I;exact zI)|(apply I<;>intro hg))
    ·rw[hq,hb,if_neg (by simp)]at hF
     rw[←hF]
    ·exact hK _ (i+1) (Gh.canon [1] [] [] (zk hw) rfl rfl) hi (by rw[za2 hi,hq,hb];rfl) (by omega)
  ·have hi:i=r.held.length:=by
    have:¬(i:Int)<r.held.length:=by simpa using hge
    omega
   rw[zeh hi]at hF
   rw[←hF]
   exact zW0 trivial
theorem zm0 (m:Memo) (hr:zcu m.reply):CallOK prog 44 [.f (.agg m.lent)] (fun x o=>x=[rb (answerB m)]∧o=[]):=by
 refine zh func44 results44 ntmps44 call44 ?_
 simp only[f44,Option.getD]
 have hh:=zfv m.seq 1
 refine zL trivial (I (hh) (zoG m.reply hr)) ?_
 simp[answerB,Bool.and_assoc]
theorem zoE (l:List Memo) (hl:l.length<2^62) (c q:Int):CallOK prog 188 [.f (al l.length (zaM l)), .f (ai c), .f (ai q)] (fun r o=>r=[ri (zds l c q)]∧o=[]):=by
 refine zh func188 results188 ntmps188 call188 ?_
 simp only[f188,Option.getD]
 have hla:=zmI l hl c
 cases hf:zct l c with
 |none=>
  rw[hf]at hla
  simp only[Option.isSome_none,Option.getD_none]at hla
  have:zds l c q=1:=by unfold zds;rw[hf]
  rw[this]
  exact zW trivial (hla)
 |some m=>
  rw[hf]at hla
  simp only[Option.isSome_some,Option.getD_some]at hla
  have:zds l c q=if decide (m.seq<q)=true then 1 else if(m.seq==q)=true then 0 else -1:=by unfold zds;rw[hf];simp only[decide_eq_true_eq,beq_iff_eq]
  rw[this]
  cases h1:decide (m.seq<q)
  ·cases h2:(m.seq==q)
   ·exact zW (I h1 h2) (hla)
   ·exact zW (I h1 h2) (hla)
  ·exact zW h1 (hla)
def kR (a:Memo):List Memo→Bool→List Memo
 |[],put=>if put=true then []else [a]
 |m::r,put=>if(m.client==a.client)=true then a::kR a r true else if(!put&&decide (m.client>a.client))=true then a::m::kR a r true else m::kR a r put
theorem zpQ {a:Memo}:∀{l:List Memo},(∀m∈l,(m.client==a.client)=false)→kR a l true=l
 |[],_=>rfl
 |m::r,h=>by
  rw[kR,if_neg (by rw[h m List.mem_cons_self];simp),if_neg (by simp),zpQ fun x hx=>h x (List.mem_cons_of_mem _ hx)]
theorem zu3 {a:Memo}:∀{l:List Memo},SM l→kR a l false=if(zct l a.client).isSome=true then l.set (zo3 l a.client) a else l.take (zo3 l a.client)++a::l.drop (zo3 l a.client)
 |[],_=>rfl
 |m::r,hs=>by
  have hs':=List.pairwise_cons.1 hs
  rw[kR]
  by_cases h1:m.client=a.client
  ·have hp:zo3 (m::r) a.client=0:=by unfold zo3;rw[zdt,if_neg (by simp;omega)]
   have hf:(zct (m::r) a.client).isSome=true:=by unfold zct;rw[List.find?_cons_of_pos (by simpa using h1)];rfl
   rw[if_pos (by simpa using h1),if_pos hf,hp,List.set_cons_zero,zpQ fun x hx=>by have:=hs'.1 x hx;simp;omega]
  ·rw[if_neg (by simpa using h1)]
   by_cases h2:m.client>a.client
   ·have hp:zo3 (m::r) a.client=0:=by unfold zo3;rw[zdt,if_neg (by simp;omega)]
    have hf:(zct (m::r) a.client).isSome=false:=by
     rw[Option.isSome_eq_false_iff,Option.isNone_iff_eq_none]
     refine List.find?_eq_none.2 fun x hx=> ?_
     rcases List.mem_cons.1 hx with rfl|hx
     ·simpa using h1
     ·have:=hs'.1 x hx;simp;omega
    rw[if_pos (by simpa using h2),hf,if_neg (by simp),hp,zpQ fun x hx=>by have:=hs'.1 x hx;simp;omega]
    rfl
   ·have hp:zo3 (m::r) a.client=zo3 r a.client+1:=by unfold zo3;rw[zdt,if_pos (by simp;omega)]
    have hf:zct (m::r) a.client=zct r a.client:=by unfold zct;rw[List.find?_cons_of_neg (by simpa using h1)]
    rw[if_neg (by simpa using h2),zu3 hs'.2,hf,hp]
    split<;>rfl
theorem zz3 {a:Memo} {l:List Memo} {i:Nat} {put:Bool} (hi:i<l.length):kR a (l.drop i) put=if(l[i].client==a.client)=true then a::kR a (l.drop (i+1)) true else if(!put&&decide (l[i].client>a.client))=true then a::l[i]::kR a (l.drop (i+1)) true else l[i]::kR a (l.drop (i+1)) put:=by
 rw[List.drop_eq_getElem_cons hi,kR]
abbrev zER (a:Memo):List C:=[di a.client,di a.seq,di a.reply.code,di a.reply.session,di a.reply.ahead, .d (.sl a.reply.held.length (zaK a.reply.held))]
set_option maxHeartbeats 2000000 in
theorem zxn (l:List Memo) (hs:SM l) (hl:l.length<2^30) (a:Memo) (ha:answerB a=true) (har:zcu a.reply) (hf:zds l a.client a.seq=1):
  CallOK prog 191 [.f (al l.length (zaM l)), .f (.agg (a.enc.map C.d))] (fun r o=>r=[.one (.own 6 (zmP l a).length (zaM (zmP l a)) false)]∧o=[]):=by
 refine CallOK.nil ?_
 have hk:zmP l a=kR a l false:=by
  rw[zu3 hs]
  unfold zmP
  rw[if_neg (by rw[ha,hf];simp)]
 rw[hk]
 refine zh func191 results191 ntmps191 call191 ?_
 simp only[f191,Option.getD]
 have hma:=zm0 a har
 rw[ha]at hma
 have hfr:=zoE l (by omega) a.client a.seq
 rw[hf]at hfr
 have h11:((1:Int) !=1)=false:=rfl
 refine zL h11 (I (hma) (hfr)) ?_
 refine zaf (τ:=Nat×Bool×List Memo) (fun t=>⟨(al l.length (zaM l)::dq2 (ptq 3::dd::ptq 5:: .one (.own ⟨6,1,1⟩ 0 t.2.2.length)::ab t.2.1::ai t.1::zy4 (zec []))),
   [(3,⟨2,[obq 1 [di a.client,di a.seq,di a.reply.code,di a.reply.session,di a.reply.ahead, .d (.sl a.reply.held.length (zaK a.reply.held))],none,none,none,none,none,none]⟩),(5,⟨2,[obq 1 [di a.client,di a.seq,di a.reply.code,di a.reply.session,di a.reply.ahead, .d (.sl a.reply.held.length (zaK a.reply.held))],none,none,none,none,none,none]⟩),(6,⟨2,[none,roq 1 6 (zaM t.2.2)]⟩),(47,⟨2,[]⟩),(48,⟨2,[]⟩),(63,⟨2,[]⟩),(64,⟨2,[]⟩),(70,⟨2,[]⟩),(71,⟨2,[]⟩)]⟩)
  (fun t=>t.1≤l.length∧t.2.2.length≤t.1+1+1∧(t.2.1=false→t.2.2.length≤t.1)) (fun t=>t.2.2++kR a (l.drop t.1) t.2.1) (fun t=>l.length - t.1) (0,false,[])
  ((Gh.nil (i:=6) (s:=6) (sz:=6) rfl).trans (Gh.canon [3,5,6] [47,48,63,64,70,71] [] zK rfl rfl)) ⟨Nat.zero_le _,by simp,by simp⟩ ?_
 rintro⟨i,put,m⟩ ⟨hi0,hm1,hm2⟩ hF K hK
 simp only[List.drop_zero,List.nil_append]at hi0 hm1 hm2 hF hK⊢
 refine zw ?_
 refine zaa (fun hlt=> ?_) (fun hge=> ?_)
 ·have hi:i<l.length:=by simpa using hlt
  have hat:=zdI hi
  have hw:=zai hi (by omega)
  have hd:=zz3 (a:=a) (put:=put) hi
  have hb1:((m.length+1)*64≤2^47)=True:=eq_true (by omega)
  have hb2:((m.length+1+1)*64≤2^47)=True:=eq_true (by omega)
  have hsA:zaM m++[iD a.client,iD a.seq,iD a.reply.code,iD a.reply.session,iD a.reply.ahead, .sl a.reply.held.length (zaK a.reply.held)]=zaM (m++[a]):=by rw[zen]
  cases h1:(l[i].client==a.client)
  ·rw[if_neg (by rw[h1];simp)]at hd
   cases h2:(!put&&decide (l[i].client>a.client))
   ·rw[h2,if_neg (by simp)]at hd
    have hsB:zaM m++[iD l[i].client,iD l[i].seq,iD l[i].reply.code,iD l[i].reply.session,iD l[i].reply.ahead, .sl l[i].reply.held.length (zaK l[i].reply.held)]=zaM (m++[l[i]]):=by rw[zen]
    refine zL0 (I hat (I h1 (I h2 (I hb1 (I hsB (I @zaC zca)))))) ?_
    exact hK _ (i+1,put,m++[l[i]]) (Gh.canon [3,5,6] [] [] (zk (I hw (I @List.length_append.{0} @List.length_singleton.{0}))) rfl rfl) ⟨hi,by simp;omega,fun hp=>by have:=hm2 hp;simp;omega⟩ (by simp only;rw[hd];simp) (by simp only;omega)
   ·rw[h2,if_pos rfl]at hd
    have hsB:zaM (m++[a])++[iD l[i].client,iD l[i].seq,iD l[i].reply.code,iD l[i].reply.session,iD l[i].reply.ahead, .sl l[i].reply.held.length (zaK l[i].reply.held)]=zaM (m++[a]++[l[i]]):=by rw[zen (l:=m++[a])]
    have htA:(zaM (m++[a])).take ((m.length+1)*6)=zaM (m++[a]):=by have:=zcJ (l:=m++[a]);rwa[List.length_append,List.length_singleton]at this
    refine zL0 (I hat (I h1 (I h2 (I hb1 (I hb2 (I hsA (I htA (I hsB (I @zaC zca))))))))) ?_
    have hpf:put=false:=by cases put;rfl;simp at h2
    have hm3:=hm2 hpf
    exact hK _ (i+1,true,m++[a]++[l[i]]) (Gh.canon [3,5,6] [] [] (zk (I hw (I @List.length_append.{0} @List.length_singleton.{0}))) rfl rfl) ⟨hi,by simp;omega,fun hp=>by cases hp⟩ (by simp only;rw[hd];simp) (by simp only;omega)
  ·rw[if_pos h1]at hd
   refine zL0 (I hat (I h1 (I hb1 (I hsA (I @zaC zca))))) ?_
   exact hK _ (i+1,true,m++[a]) (Gh.canon [3,5,6] [] [] (zk (I hw (I @List.length_append.{0} @List.length_singleton.{0}))) rfl rfl) ⟨hi,by simp;omega,fun hp=>by cases hp⟩ (by simp only;rw[hd];simp) (by simp only;omega)
 ·have hi:i=l.length:=by
   have:¬(i:Int)<l.length:=by simpa using hge
   omega
  subst hi
  rw[List.drop_length,kR]at hF
  have hb1:((m.length+1)*64≤2^47)=True:=eq_true (by omega)
  have hsA:zaM m++[iD a.client,iD a.seq,iD a.reply.code,iD a.reply.session,iD a.reply.ahead, .sl a.reply.held.length (zaK a.reply.held)]=zaM (m++[a]):=by rw[zen]
  cases put
  ·refine zL0 (I hb1 (I hsA (I @zaC zca))) ?_
   have hF':m++[a]=kR a l false:=hF
   rw[←hF']
   show zaA _ _∧True
   simp[zaA]
  ·refine zL0 (I hb1 hsA) ?_
   have hF':m=kR a l false:=by rw[←hF];simp
   rw[←hF']
   show zaA _ _∧True
   simp[zaA]
theorem zoF (l:List Memo) (c q:Int):zds l c q=1∨zds l c q=0∨zds l c q= -1:=by
 unfold zds
 cases zct l c with
 |none=>exact .inl rfl
 |some m=>simp only;split;exact .inl rfl;split;exact .inr (.inl rfl);exact .inr (.inr rfl)
abbrev zu4 (a:Reply):RF:= .agg [.d (iD a.code), .d (iD a.session), .d (iD a.ahead), .d (.sl a.held.length (zaK a.held))]
set_option maxHeartbeats 4000000 in
theorem zu5 (s:St) (h:Small s) (hr:RightS s) (r:Req) (hro:r.ok) (hdr:Req.may r=true→answerB ⟨r.client,r.seq,(zbH s r).2⟩=true) (hdo:Req.may r=true→zcu (zbH s r).2):
  CallOK prog 159 [.f (zzY s), .f (.agg (r.enc.map C.d))]
  (fun x o=>x=[zAy (zfg s r).1,zu4 (zfg s r).2.1,rb (zfg s r).2.2]∧o=[]):=by
 refine CallOK.nil ?_
 refine zh func159 results159 ntmps159 call159 ?_
 simp only[f159,Option.getD]
 have hmr:=zsm r hro
 have hfr:=zoE s.memos (by have:=h.memos;omega) r.client r.seq
 cases hm:Req.may r
 ·rw[hm]at hmr
  have ha:zfg s r=(s,⟨1,0,0,[]⟩,false):=by unfold zfg;rw[if_pos (by rw[hm];rfl)]
  rw[ha]
  repeat'(first|exact zC|refine zq0 ?_|refine zx (hmr) ?_|(apply zaa<;>intro hb)|(apply I;exact zI)|(apply I<;>intro hg))
  simp[zaN,zcC,zaQ,zaA]
 ·rw[hm]at hmr
  have hap:zfg s r=if decide (zds s.memos r.client r.seq<0)=true then(s,⟨0,0,0,[]⟩,false)else if(zds s.memos r.client r.seq==0)=true then(s,((zct s.memos r.client).map Memo.reply).getD ⟨0,0,0,[]⟩,false)else
    ({(zbH s r).1 with memos:=zmP (zbH s r).1.memos ⟨r.client,r.seq,(zbH s r).2⟩},(zbH s r).2,true):=by
   unfold zfg
   rw[if_neg (by rw[hm];simp)]
   have hc:=zoF s.memos r.client r.seq
   rcases hc with e|e|e<;>rw[e]<;>rfl
  cases f1:decide (zds s.memos r.client r.seq<0)
  ·rw[if_neg (by rw[f1];simp)]at hap
   cases f2:(zds s.memos r.client r.seq==0)
   ·rw[if_neg (by rw[f2];simp)]at hap
    rw[hap]
    have hdn:=zxp s h hr r hro hm
    have hdm:=zr9 h r
    have hf1:zds s.memos r.client r.seq=1:=by
     rcases zoF s.memos r.client r.seq with e|e|e
     ·exact e
     ·rw[e]at f2;cases f2
     ·rw[e]at f1;cases f1
    have hke:=zxn s.memos hr.ms h.memos ⟨r.client,r.seq,(zbH s r).2⟩ (hdr hm) (hdo hm) hf1
    rw[hdm]
    repeat'(first|exact zC|(with_reducible first|refine zbc 10 ?_|refine zaR 10 ?_|refine zaS 10 ?_)|refine zu (I f1 (I f2 hdm)) ?_|(with_reducible first|refine zae _ _ ?_)|refine zx (hmr) ?_|refine zx (hfr) ?_|refine zx (hdn) ?_|(apply zaa<;>intro hb)|(apply I;exact zI)|(apply I<;>intro hg))
    refine zbl (zbr (Gh.sealF 11 3 (.own ⟨11,4,4⟩ 0 (zbH s r).2.held.length) ?_) ?_)
    ·exact zo0
    refine zf0 ?_
    repeat'(first|exact zC|(with_reducible first|refine zbc 11 ?_|refine zaR 11 ?_|refine zaS 11 ?_)|refine zu hdm ?_|(with_reducible first|refine zae _ _ ?_)|refine zx (hke) ?_|(apply zaa<;>intro hb)|(apply I;exact zI)|(apply I<;>intro hg))
    refine zbl (zbr (Gh.sealF 10 5 (.own ⟨10,6,7⟩ 0 (zmP s.memos ⟨r.client,r.seq,(zbH s r).2⟩).length) ?_) ?_)
    ·exact zo0
    refine zf0 ?_
    repeat'(first|exact zC|refine zq hdm ?_|(apply zaa<;>intro hb)|(apply I;exact zI)|(apply I<;>intro hg))
    simp[zaN,zcC,zaQ,zaA]
   ·rw[if_pos f2]at hap
    rw[hap]
    have hla:=zmI s.memos (by have:=h.memos;omega) r.client
    refine zL (I f1 f2) (I (hmr) (I (hfr) (hla))) ?_
    cases hfm:zct s.memos r.client with
    |none=>unfold zds at f2;rw[hfm]at f2;cases f2
    |some m=>simp[zaN,zcC,zaQ,zaA]
  ·rw[if_pos f1]at hap
   rw[hap]
   repeat'(first|exact zC|refine zq f1 ?_|refine zx (hmr) ?_|refine zx (hfr) ?_|(apply zaa<;>intro hb)|(apply I;exact zI)|(apply I<;>intro hg))
   simp[zaN,zcC,zaQ,zaA]
theorem zmH {T:Nat→Option TI} {P:Program} {x:Code} {g g':G} {Q:Ex→G→Prop} (h:Gh g g') (hl:zrX T P x g' Q):zrX T P x g Q:=by
 obtain⟨I,n0,⟨g0,h1,h2⟩,h3⟩:=hl
 exact⟨I,n0,⟨g0,h.trans h1,h2⟩,h3⟩
def sameI (a b:List Int):Bool:=(a.length==b.length)&&((a.zip b).all fun p=>p.1==p.2)
theorem zpE (a b:List Int) (ha:a.length<2^62) (hb:b.length<2^62):CallOK prog 185 [.f (al a.length (zaF a)), .f (al b.length (zaF b))] (fun r o=>r=[rb (sameI a b)]∧o=[]):=by
 refine zh func185 results185 ntmps185 call185 ?_
 simp only[f185,Option.getD]
 cases hl:((a.length:Int) !=(b.length:Int))
 ·have hle:a.length=b.length:=by simp at hl;omega
  have hs:sameI a b=(a.zip b).all fun p=>p.1==p.2:=by unfold sameI;rw[hle];simp
  rw[hs]
  refine zL0 hl ?_
  refine zaf (τ:=Nat) (fun i=>⟨(al a.length (zaF a)::al b.length (zaF b)::dq3 (ai i::zs7 [])),[]⟩)
   (fun i=>i≤a.length) (fun i=>((a.drop i).zip (b.drop i)).all fun p=>p.1==p.2) (fun i=>a.length - i) 0
   (Gh.canon [] [] [] zK rfl rfl) (Nat.zero_le _) ?_
  intro i hi0 hF K hK
  rw[List.drop_zero,List.drop_zero]at hF
  refine zw ?_
  refine zaa (fun hlt=> ?_) (fun hge=> ?_)
  ·have hi:i<a.length:=by simpa using hlt
   have hib:i<b.length:=by omega
   have hat:=zcI hi
   have hbt:=zcI hib
   have hw:=zai hi ha
   have hq:(((a.drop i).zip (b.drop i)).all fun p=>p.1==p.2)=((a[i]==b[i])&&(((a.drop (i+1)).zip (b.drop (i+1))).all fun p=>p.1==p.2)):=by
    rw[List.drop_eq_getElem_cons hi,List.drop_eq_getElem_cons hib,List.zip_cons_cons,List.all_cons]
   rw[hq]at hF
   cases he:a[i] !=b[i]
   ·have he':(a[i]==b[i])=true:=by simpa using he
    rw[he',Bool.true_and]at hq
    refine zL0 (I hat (I hbt (I he (I @zaD zca)))) ?_
    exact hK _ (i+1) (Gh.canon [] [] [] (zk hw) rfl rfl) hi hq.symm (by omega)
   ·have he':(a[i]==b[i])=false:=by simpa using he
    rw[he',Bool.false_and]at hF
    refine zL0 (I hat (I hbt (I he (I @zaD zca)))) ?_
    rw[←hF]
  ·have hi:i=a.length:=by
    have:¬(i:Int)<a.length:=by simpa using hge
    omega
   rw[hi,List.drop_length,List.zip_nil_left,List.all_nil]at hF
   rw[←hF]
   exact zW0 trivial
 ·have hs:sameI a b=false:=by
   have:(a.length==b.length)=false:=by simp at hl⊢;omega
   unfold sameI;rw[this];rfl
  rw[hs]
  exact zW0 hl
def st0:St:=⟨0,0,0,[],[],[]⟩
def rq0:Req:=⟨3,1,1,0, .empty⟩
theorem zoo:RightS st0:=zdE.1 rfl
def st1:St:=⟨0,1,0,[⟨3,1,0⟩],[],[⟨3,1,⟨0,1,0,[]⟩⟩]⟩
theorem zr6 (n:Int):(zop n).size≤12:=by
 unfold zop
 rcases six n with h|h|h|h|h|h<;>rw[h]<;>decide
theorem zzT {s:St} (hr:RightS s) {a:Act} (ha:zpF a):(zvW s a).ok:=by
 obtain⟨_,h1,h2,h3,h4,h5⟩:=ha
 unfold zav at*
 have hH:zbE=2305843009213693952:=rfl
 have hsq:∀c,0≤((zct s.memos c).getD zgY).seq∧((zct s.memos c).getD zgY).seq≤zbE:=fun c=>by
  cases hf:zct s.memos c with
  |none=>decide
  |some m=>
   have:=(zdr (hr.mok m (List.mem_of_find?_eq_some hf))).2.1
   simp only[Option.getD_some];omega
 have hnm:∀c,0≤((zaH s.sess c).getD zfF).num∧((zaH s.sess c).getD zfF).num≤zbE:=fun c=>by
  cases hf:zaH s.sess c with
  |none=>decide
  |some m=>
   have:=(zcA.1 (hr.sok m (List.mem_of_find?_eq_some hf)).1).2.1
   simp only[Option.getD_some];omega
 have hk:1≤zk0 a.kind∧zk0 a.kind≤6:=by unfold zk0;omega
 have hs:0≤zr7 a.kind a.session∧zr7 a.kind a.session≤7:=by unfold zr7;split<;>omega
 have hn:(zuv a.kind a.name).size≤12:=by
  unfold zuv
  split
  ·exact zr6 _
  ·decide
 unfold zvW Req.ok i64 zBP
 simp only
 have:=hsq (a.client % 8)
 have:=hnm (a.client % 8)
 refine⟨by omega, ?_, ?_, ?_, ?_⟩
 ·split
  ·split<;>omega
  ·omega
 ·split<;>omega
 ·split
  ·omega
  ·split<;>omega
 ·split
  ·decide
  ·omega
def zxe (s:St) (a:Act):St:=(zfg (zcP s (s.time+a.time % 16) 60) (zvW (zcP s (s.time+a.time % 16) 60) a)).1
def zon:List Act→St→St
 |[],s=>s
 |a::r,s=>zon r (zxe s a)
structure Mk (s:St) (i:Nat):Prop where
 rt:RightS s
 num:s.num≤i
 tok:s.token≤8*i
theorem zus {s:St} {i:Nat} (h:Mk s i) (hi:i≤1000) (a:Act):Mk (zxe s a) (i+1):=by
 have hH:zbE=2305843009213693952:=rfl
 obtain⟨h1,h2,h3⟩:=h
 obtain⟨r1,r2,r3,r4,r5⟩:=zhZ h1 (s.time+a.time % 16) 60 (by omega)
 unfold zxe
 obtain⟨d1,d2,d3,d4,d5⟩:=zpH r1 (zvW (zcP s (s.time+a.time % 16) 60) a) (by omega) (by omega)
 exact⟨d1,by omega,by omega⟩
theorem zut:∀{l:List Act} {s:St} {i:Nat},Mk s i→i+l.length≤1000→Mk (zon l s) (i+l.length)
 |[],_,_,h,_=>h
 |a::l,s,i,h,hi=>by
  simp only[List.length_cons]at hi⊢
  have:=zut (l:=l) (zus h (by omega) a) (by omega)
  rwa[show i+1+l.length=i+(l.length+1) by omega]at this
abbrev zkZ (acts:List Act):St:=zon (acts.take 60) st0
theorem zq4 (acts:List Act):Mk (zkZ acts) 60:=by
 have h:=zut (l:=acts.take 60) (s:=st0) (i:=0) ⟨zoo,by decide,by decide⟩ (by simp;omega)
 have hl:(acts.take 60).length≤60:=by simp;omega
 exact⟨h.rt,by have:=h.num;show(zon (acts.take 60) st0).num≤_;omega,by have:=h.tok;show(zon (acts.take 60) st0).token≤_;omega⟩
set_option maxHeartbeats 4000000 in
theorem zzU (acts:List Act) (hl:acts.length<2^60) (ha:∀a∈acts,zpF a):CallOK prog 110 [.f (al acts.length (zkh acts))] (fun r o=>r=[zAy (zkZ acts)]∧o=[]):=by
 refine CallOK.nil ?_
 refine zh func110 results110 ntmps110 call110 ?_
 simp only[f110,Option.getD]
 refine zL0 trivial ?_
 refine zmH (Gh.sealF 3 3 (.d (.v (.slice none 0 0))) ?_) ?_
 ·exact zo0
 refine zf0 ?_
 refine zmH (Gh.sealF 3 4 (.d (.v (.slice none 0 0))) ?_) ?_
 ·exact zo0
 refine zf0 ?_
 refine zmH (Gh.sealF 3 5 (.d (.v (.slice none 0 0))) ?_) ?_
 ·exact zo0
 refine zf0 ?_
 refine zaf (τ:=Nat×St) (fun q=>⟨(al acts.length (zkh acts)::dd::ptq 2::ptq 3::ai q.1::zAt []),[(2,⟨2,[obq 1 [di 0,di 0,di 0, .d (.v (.slice none 0 0)), .d (.v (.slice none 0 0)), .d (.v (.slice none 0 0))],none,none,none,none,none,none]⟩),(3,⟨2,[obq 1 [di q.2.time,di q.2.num,di q.2.token, .d (.sl q.2.sess.length (za1 q.2.sess)), .d (.sl q.2.locks.length (zaj q.2.locks)), .d (.sl q.2.memos.length (zaM q.2.memos))],none,none,none,none,none,none]⟩),(5,⟨2,[]⟩),(6,⟨2,[]⟩),(29,⟨2,[]⟩),(38,⟨2,[]⟩)]⟩)
  (fun q=>q.1≤acts.length∧q.1≤60∧Mk q.2 q.1) (fun q=>zon ((acts.take 60).drop q.1) q.2) (fun q=>acts.length - q.1) (0,st0)
  (Gh.canon [2,3] [5,6,29,38] [] zK rfl rfl) ⟨Nat.zero_le _,by decide,zoo,by decide,by decide⟩ ?_
 intro⟨i,s⟩ ⟨j1,j2,j3⟩ hF K hK
 simp only[List.drop_zero]at j1 j2 j3 hF hK⊢
 have hH:zbE=2305843009213693952:=rfl
 refine zw ?_
 refine zaa (fun hlt=> ?_) (fun hge=> ?_)
 ·have hlt2:i<acts.length∧i<60:=by simp at hlt;omega
  have hi:=hlt2.1
  have hat:=zzW hi
  have hw:=zai hi (by omega)
  have hao:=ha _ (List.getElem_mem hi)
  have hwt:=zdq hao.1
  have htm:=zd9 hao.1.1 16
  have hrt:=j3.rt.time
  have hnu:=j3.num
  have htk:=j3.tok
  have hwa:IntKind.i64.wrap (s.time+acts[i].time % 16)=s.time+acts[i].time % 16:=wrap64 (by omega) (by omega)
  have had:=zpR s (zcr j3.rt) j3.rt (s.time+acts[i].time % 16) 60
  obtain⟨r1,r2,r3,r4,r5⟩:=zhZ j3.rt (s.time+acts[i].time % 16) 60 (by omega)
  have hmk:=zus j3 (by omega) acts[i]
  have hds:(acts.take 60).drop i=acts[i]::(acts.take 60).drop (i+1):=by
   rw[List.drop_eq_getElem_cons (by simp;omega),List.getElem_take]
  have hst:zxe s acts[i]=(zfg (zcP s (s.time+acts[i].time % 16) 60) (zvW (zcP s (s.time+acts[i].time % 16) 60) acts[i])).1:=rfl
  generalize zcP s (s.time+acts[i].time % 16) 60=t at*
  have hrq:=zr8 t (zcr r1) r1 acts[i] hao
  have hro:=zzT r1 hao
  generalize zvW t acts[i]=q at*
  have hap:=zu5 t (zcr r1) r1 q hro (fun hm=>zpG r1 hm (by omega) (by omega)) (fun hm=>zsa r1 hm (by omega) (by omega))
  generalize zfg t q=U at*
  refine zL (I hat (I hwt (I htm (I hwa (I @zxf zca))))) (I (had) (I (hrq) (hap))) ?_
  refine hK _ (i+1,U.1) (Gh.canon [2,3] [] [] (zk hw) rfl rfl) ⟨hi,by simp only;omega,by rw[←hst];exact hmk⟩ ?_ (by simp only;omega)
  simp only
  rw[hds,zon,hst]
 ·have hd:(acts.take 60).drop i=[]:=List.drop_eq_nil_of_le (by simp at hge⊢;omega)
  rw[hd,zon]at hF
  rw[show zkZ acts=s from hF.symm]
  repeat'(first|exact zC|refine zq0 ?_|(apply zaa<;>intro hb)|(apply I;exact zI)|(apply I<;>intro hg))
  simp[zaN,zcC,zaQ,zaA]
abbrev zad (l:List Int):List D:=l.map uD
def zlS (v:Int) (k:Nat):Int:=IntKind.u8.wrap (v.fdiv (2^(8*(7 - k))))
def zbz (v:Int):List Int:=(List.range 8).map (zlS v)
abbrev zBo (v:Int) (i:Nat):List D:=(List.range 8).map fun k=>uD (if k<i then zlS v k else 0)
theorem zd0 {v:Int} (h0:0≤v) (h1:v≤255):IntKind.u8.wrap v=v:=by
 have e:IntKind.u8.wrap v=v % 256:=by
  unfold IntKind.wrap
  simp[IntKind.bits,IntKind.signed]
 rw[e]
 omega
theorem zxc (v:Int) (i:Nat) (hi:i<8):(zBo v i).set i (uD (zlS v i))=zBo v (i+1):=by
 apply List.ext_getElem
 ·simp
 ·intro k h1 h2
  simp only[List.length_set,List.length_map,List.length_range]at h1
  rw[List.getElem_set]
  simp only[List.getElem_map,List.getElem_range]
  split
  ·rename_i e;subst e;rw[if_pos (by omega)]
  ·rename_i e
   by_cases h:k<i
   ·rw[if_pos h,if_pos (by omega)]
   ·rw[if_neg h,if_neg (by omega)]
theorem zlT (v:Int) (h:0≤v∧v≤255):CallOK prog 63 [.f (ai v)] (fun r o=>r=[.one (.own 1 1 (zad [v]) false),ri 0]∧o=[]):=by
 refine zh func63 results63 ntmps63 call63 ?_
 simp only[f63,Option.getD]
 have h1:decide (v<0)=false:=by simp;omega
 have h2:decide (v>255)=false:=by simp;omega
 have hw:IntKind.u8.wrap v=v:=zd0 h.1 h.2
 exact zW0 (I h1 (I h2 hw))
theorem zdP (v:Int) (h:0≤v∧v<4611686018427387904):CallOK prog 64 [.f (ai v)] (fun r o=>r=[.one (.own 1 8 (zad (zbz v)) false),ri 0]∧o=[]):=by
 refine zh func64 results64 ntmps64 call64 ?_
 simp only[f64,Option.getD]
 have h1:decide (v<0)=false:=by simp;omega
 have h2:decide (v≥4611686018427387904)=false:=by simp;omega
 refine zL0 (I h1 h2) ?_
 refine zaf (τ:=Nat) (fun i=>⟨(ai v::dq3 (.one (.own ⟨4,1,1⟩ 0 8)::dq9 (ai 8::ai i::zs6 []))),[(12,⟨2,[]⟩),(4,⟨2,[none,roq 1 1 (zBo v i)]⟩)]⟩)
  (fun i=>i≤8) (fun _=>()) (fun i=>8 - i) 0
  (Gh.canon [4] [] [] zK rfl rfl) (Nat.zero_le _) ?_
 intro i hi0 hF K hK
 refine zw ?_
 refine zaa (fun hlt=> ?_) (fun hge=> ?_)
 ·have hi:i<8:=by simp at hlt;omega
  have w1:IntKind.i64.wrap (7 - (i:Int))=7 - i:=wrap64 (by omega) (by omega)
  have w2:IntKind.i64.wrap (8*(7 - (i:Int)))=((8*(7 - i):Nat):Int):=by rw[wrap64 (by omega) (by omega)];omega
  have w3:¬(((8*(7 - i):Nat):Int)<0):=by omega
  have w4:min (8*(7 - i)) IntKind.i64.bits=8*(7 - i):=by have:IntKind.i64.bits=64:=rfl;omega
  have hw:IntKind.i64.wrap ((i:Int)+1)=((i+1:Nat):Int):=by rw[wrap64 (by omega) (by omega)];omega
  have hset:((zBo v i).map C.d).set i (C.d (D.v (Value.int IntKind.u8 (IntKind.u8.wrap (v.fdiv (2^(8*(7 - i))))))))=(zBo v (i+1)).map C.d:=by
   have:=zxc v i hi
   rw[←this,List.map_set];rfl
  have hle:(i+1≤8)=True:=eq_true (by omega)
  repeat'(first|(with_reducible first|refine zae _ _ ?_|refine zcm ?_|refine zcn ?_)|rw[zbP]|simp only[w1,w2,if_neg w3,Int.toNat_natCast,w4,hset,List.length_range,hle,zY,Int.reduceEq,Int.reduceBEq,Int.reduceBNe,Nat.reduceSub,Nat.reduceEqDiff,Nat.reduceAdd,Nat.reduceMul,Nat.reduceLeDiff,Nat.reduceLT,Nat.reduceBEq,reduceCtorEq]|refine zbb ?_|refine zaa (fun hb=> ?_) (fun hb=> ?_)|(refine And.intro ?_ ?_;exact zI)|refine And.intro (fun hg=> ?_) (fun hg=> ?_)|exact zC|fail)
  exact hK _ (i+1) (Gh.canon [4] [] [] (zk hw) rfl rfl) hi rfl (by omega)
 ·have hi:i=8:=by
   have:¬(i:Int)<8:=by simpa using hge
   omega
  subst hi
  refine zL0 trivial ?_
  rfl
theorem zjm (s:ByteArray):s.data.toList.length=s.size:=by rw[Array.length_toList];rfl
abbrev zBp (s:ByteArray):List D:=s.data.toList.map fun b=>uD b.toNat
def zi2 (s:ByteArray):List D:=uD s.size::zBp s
theorem zhT (s:ByteArray):(zi2 s).length=1+s.size:=by simp[zi2,zjm,Nat.add_comm]
theorem zit (s:ByteArray) (h:s.size≤255):CallOK prog 111 [.f (ast s)] (fun r o=>r=[.one (.own 1 (1+s.size) (zi2 s) false),ri 0]∧o=[]):=by
 refine zh func111 results111 ntmps111 call111 ?_
 simp only[f111,Option.getD]
 have h1:decide ((s.size:Int)>255)=false:=by simp;omega
 have hw:IntKind.u8.wrap (s.size:Int)=s.size:=zd0 (by omega) (by omega)
 have hle:(1+s.size≤2^47)=True:=eq_true (by omega)
 refine zL0 (I h1 (I hw (I @zjm hle))) ?_
 rfl
theorem zzR (n:Nat) (h:n<2^40):CallOK prog 112 [.f (.one (.d (.v (.slice none 0 0)))), .f (ai n)] (fun r o=>r=[.one (.own 1 0 (zf9 [.int .u8 0] n) false)]∧o=[]):=by
 refine zlo zcV mixed (T:=Ty) (n:=27) func112 (c:=f112.body.getD .skip) rfl results112 ntmps112 call112
  (fun _=>⟨(openG 27 [.f (.one (.d (.v (.slice none 0 0)))), .f (ai n)]).v.set 0 (.one (.gap ⟨0,1,0⟩ 0 0 0)),[(0,⟨1,[none,some {e:=0,var:=false,fz:=false,sz:=1,cells:=[]}]⟩)]⟩)
  (fun _=>True) (fun cx a w hh=>⟨0,trivial,Gh.nilG (i:=0) (s:=0) (sz:=1) rfl cx a w hh⟩) ?_
 intro k _
 simp only[f112,Option.getD]
 have h1:decide ((n:Int)<0)=false:=by simp
 have hw:IntKind.i64.wrap ((n:Int) - IntKind.i64.wrap (((0:Nat):Int) - ((0:Nat):Int)))=n:=by
  rw[show IntKind.i64.wrap (((0:Nat):Int) - ((0:Nat):Int))=0 from by decide,Int.sub_zero,wrap64 (by omega) (by omega)]
 cases h2:decide ((n:Int)>0)
 ·have:n=0:=by simp at h2;omega
  subst this
  refine zL0 (I h1 (I hw h2)) ?_
  rfl
 ·have h3:0<n:=by simp at h2;omega
  have hc1:(0≤(n:Int)∧(n:Int)<2^62∧0<n∧n≤2^47)=True:=eq_true (by omega)
  exact zW0 (I h1 (I hw (I h2 (I hc1 @Int.toNat_natCast))))
def zzS (ls:List (List D)) (i:Nat):List D:=if i=0 then zf9 [.int .u8 0] ls.flatten.length else(ls.take i).flatten
theorem zup (ls:List (List D)) (i:Nat):(zzS ls i).take (ls.take i).flatten.length=(ls.take i).flatten:=by
 unfold zzS
 split
 ·rename_i h;subst h;simp
 ·rw[List.take_length]
theorem zhU {ls:List (List D)} {i:Nat} (hi:i<ls.length):(ls.take (i+1)).flatten=(ls.take i).flatten++ls[i]:=by
 rw[List.take_succ_eq_append_getElem hi,List.flatten_append];simp
theorem zpD {ls:List (List D)} {m:Nat} (hs:∀l∈ls,l.length≤m):∀i,(ls.take i).flatten.length≤i*m
 |0=>by simp
 |i+1=>by
  by_cases hi:i<ls.length
  ·rw[zhU hi,List.length_append]
   have:=zpD hs i
   have:=hs _ (List.getElem_mem hi)
   rw[Nat.add_mul];omega
  ·have h1:ls.take (i+1)=ls:=List.take_of_length_le (by omega)
   have h2:ls.take i=ls:=List.take_of_length_le (by omega)
   rw[h1,←h2]
   have:=zpD hs i
   rw[Nat.add_mul];omega
theorem zuq {ls:List (List D)} {i:Nat} (hi:i<ls.length):zzS ls (i+1)=(ls.take i).flatten++ls[i]:=by
 unfold zzS
 rw[if_neg (by omega),zhU hi]
theorem zxd (ls:List (List D)):zzS ls ls.length=ls.flatten:=by
 unfold zzS
 cases ls with
 |nil=>rfl
 |cons a l=>rw[if_neg (by simp),List.take_length]
abbrev zvV (ls:List (List D)):List D:=ls.map fun l=> .sl l.length l
theorem zyI {ls:List (List D)} {i:Nat} (hi:i<ls.length):(zvV ls).drop i= .sl ls[i].length ls[i]::zvV (ls.drop (i+1)):=by
 rw[←List.map_drop,List.drop_eq_getElem_cons hi];rfl
theorem zur {ls:List (List D)}:(zvV ls).length=ls.length:=by simp
theorem zkg (ls:List (List D)) (hl:ls.length<2^10) (hs:∀l∈ls,l.length≤2^12):
  CallOK prog 66 [.f (al ls.length (zvV ls))] (fun r o=>r=[.one (.own 1 ls.flatten.length ls.flatten false)]∧o=[]):=by
 refine zh func66 results66 ntmps66 call66 ?_
 simp only[f66,Option.getD]
 have hfl:=zpD hs
 refine zL0 trivial ?_
 refine zaf (τ:=Nat) (fun i=>⟨(al ls.length (zvV ls)::dq2 (ai (ls.take i).flatten.length::dq5 (al ls.length (zvV ls)::ai ls.length::ai i::zAs []))),[(5,⟨2,[]⟩)]⟩)
  (fun i=>i≤ls.length) (fun _=>()) (fun i=>ls.length - i) 0
  (Gh.canon [] [5] [] (zk (I @List.take_zero.{0} (I @List.flatten_nil.{0} @List.length_nil.{0}))) rfl rfl) (Nat.zero_le _) ?_
 intro i hi0 hF K hK
 refine zw ?_
 refine zaa (fun hlt=> ?_) (fun hge=> ?_)
 ·have hi:i<ls.length:=by simpa using hlt
  have hat:=zyI hi
  have hw:=zai hi (by omega)
  have hb:=hfl i
  have hb2:=hfl (i+1)
  have hil:i*2^12≤2^10*2^12:=Nat.mul_le_mul_right _ (by omega)
  have hil2:(i+1)*2^12≤2^10*2^12:=Nat.mul_le_mul_right _ (by omega)
  have hfs:(ls.take (i+1)).flatten.length=(ls.take i).flatten.length+ls[i].length:=by rw[zhU hi,List.length_append]
  have hws:IntKind.i64.wrap (((ls.take i).flatten.length:Int)+(ls[i].length:Int))=((ls.take (i+1)).flatten.length:Int):=by rw[wrap64 (by omega) (by omega),hfs];omega
  have hn:decide (((ls.take (i+1)).flatten.length:Int)<0)=false:=by simp
  refine zL0 (I hat (I hws (I hn @zur))) ?_
  exact hK _ (i+1) (Gh.canon [] [] [] (zk hw) rfl rfl) hi rfl (by omega)
 ·have hi:i=ls.length:=by
   have:¬(i:Int)<ls.length:=by simpa using hge
   omega
  subst hi
  have hb:=hfl ls.length
  have hil:ls.length*2^12≤2^10*2^12:=Nat.mul_le_mul_right _ (by omega)
  rw[List.take_length]at*
  have hgr:=zzR ls.flatten.length (by omega)
  clear hK
  refine zL trivial (hgr) ?_
  refine zaf (τ:=Nat) (fun i=>⟨(dq6 (.one (.own ⟨6,1,1⟩ 0 (ls.take i).flatten.length)::zvT (al ls.length (zvV ls)::ai ls.length::ai i::dq8 []))),[(5,⟨2,[]⟩),(24,⟨2,[]⟩),(6,⟨2,[none,roq 1 1 (zzS ls i)]⟩),(8,⟨2,[]⟩),(33,⟨2,[]⟩)]⟩)
   (fun i=>i≤ls.length) (fun _=>()) (fun i=>ls.length - i) 0
   (Gh.canon [6] [8,33] [] (zk (I @List.take_zero.{0} (I @List.flatten_nil.{0} @List.length_nil.{0}))) rfl rfl) (Nat.zero_le _) ?_
  intro i hi0 hF K hK
  refine zw ?_
  refine zaa (fun hlt=> ?_) (fun hge=> ?_)
  ·have hi:i<ls.length:=by simpa using hlt
   have hat:=zyI hi
   have hw:=zai hi (by omega)
   have hb:=hfl i
   have hb2:=hfl (i+1)
   have hil:i*2^12≤2^10*2^12:=Nat.mul_le_mul_right _ (by omega)
   have hil2:(i+1)*2^12≤2^10*2^12:=Nat.mul_le_mul_right _ (by omega)
   have hfs:(ls.take (i+1)).flatten.length=(ls.take i).flatten.length+ls[i].length:=by rw[zhU hi,List.length_append]
   have hle:((ls.take i).flatten.length+ls[i].length≤2^47)=True:=eq_true (by omega)
   refine zL0 (I hat (I @zur (I @zE1 (I @zup (I hle @zbu))))) ?_
   exact hK _ (i+1) (Gh.canon [6] [] [] (zk (I hw hfs)) rfl (by rw[zuq hi];rfl)) hi rfl (by omega)
  ·have hi:i=ls.length:=by
    have:¬(i:Int)<ls.length:=by simpa using hge
    omega
   subst hi
   refine zL0 trivial ?_
   rw[List.take_length,zxd]
theorem zeM (n:Int):(zad (zbz n)).length=8:=rfl
theorem zdQ {l:List Int} {i:Nat} (hi:i<l.length):(zad l).drop i=uD (l.getD i 0)::zad (l.drop (i+1)):=by
 rw[←List.map_drop,List.drop_eq_getElem_cons hi,List.getD_eq_getElem?_getD,List.getElem?_eq_getElem hi];rfl
theorem za8 {l:List Int}:(zad l).length=l.length:=by simp
def codeOf:Value→Value
 | .iface _ (.agg ⟨[c]⟩)=>c
 |_=>undef
abbrev zfE (t:Nat) (n:Int):Value:= .iface t (.agg #[.int .i64 n])
def zkd (t:Nat) (x:Value):Prop:=∃n,x=zfE t n
def nw3 (z:Value) (x:Value) (k:Nat):List Value:=if k=4 then [z]else if k=5 then [.int .i64 0]else [codeOf x]
def nwT (x:Value) (k:Nat):List Value:=if k=6 then [.string .empty]else if k=7 then [.int .i64 0]else [codeOf x]
def sz3 (_:Nat):Nat:=1
theorem zAx {l:List Value} (h:l.length=1):∃a,l=[a]:=by
 match l,h with
 |[a],_=>exact⟨a,rfl⟩
theorem cells3 {ks:List Nat} {ls:List (List Value)} (hk:ks.length=3) (h:ls.length=ks.length) (hs:∀(i k:Nat) (l:List Value),ks[i]? =some k→ls[i]? =some l→l.length=sz3 k):∃a b c,ls=[[a],[b],[c]]:=by
 rw[hk]at h
 match ls,h with
 |[x,y,z],_=>
  obtain⟨a,rfl⟩:=zAx (hs 0 ks[0] x (List.getElem?_eq_getElem (by omega)) rfl)
  obtain⟨b,rfl⟩:=zAx (hs 1 ks[1] y (List.getElem?_eq_getElem (by omega)) rfl)
  obtain⟨c,rfl⟩:=zAx (hs 2 ks[2] z (List.getElem?_eq_getElem (by omega)) rfl)
  exact⟨a,b,c,rfl⟩
theorem zke {P:Program} {t:Nat} {z:Value} (h:(P.info? t).bind (·.zero)=some z) (w:World):(zeroValue t).run P w= .ok z w:=by
 cases hi:P.info? t with
 |none=>rw[hi]at h;cases h
 |some i=>rw[hi]at h;simp[zeroValue,typeInfo,hi,show i.zero=some z from h]
theorem zis:(prog.info? 206).bind (·.zero)=some (.agg #[.int .i64 0]):=by kernel_rfl
theorem zkf:zjS prog 172 [4,5,6] sz3 (nw3 (.int .i64 0)) (zkd 206):=by
 refine zfN zcV mixed (T:=Ty) func172 rfl rfl ntmps172 rfl rfl rfl rfl rfl rfl rfl (by decide) (by decide) (by decide) ?_
 rintro x ⟨n,rfl⟩ ls hl hs
 obtain⟨a,b,c,rfl⟩:=cells3 rfl hl hs
 refine⟨.tuple #[.agg #[.int .i64 n], .bool true], .tup [.agg [di n],ab true], ?_, ?_,rfl, ?_⟩
 ·intro w
  simp[Instr.typeAssert,Tryz.underlying206]
 ·intro cx w r β
  simp[ReA,ReAs,ReC,ReCs,Rd,flat]
 ·simp only[zbF,plainO,List.map_cons,List.map_nil]
  first|refine zs0 ?_|exact zt0
  refine zL0 trivial ?_
  rfl
theorem zlQ:zpk prog 172 3:=by
 refine zeo zcV mixed (T:=Ty) func172 rfl rfl ntmps172 rfl rfl rfl rfl rfl rfl rfl (by decide) (y7:= .tuple #[.agg #[.int .i64 0], .bool false]) (V7:= .tup [.agg [di 0],ab false]) ?_ ?_ (by decide) rfl ?_
 ·intro w
  simp[Instr.typeAssert,Tryz.underlying206,zke (zis) w]
 ·intro cx w r β
  simp[ReA,ReAs,ReC,ReCs,Rd,flat]
 ·simp only[List.replicate]
  first|refine zs0 ?_|exact zt0
  exact zW0 trivial
theorem zlR:zjS prog 174 [4,5,6] sz3 (nw3 (.int .i64 0)) (zkd 206):=by
 refine zfN zcV mixed (T:=Ty) func174 rfl rfl ntmps174 rfl rfl rfl rfl rfl rfl rfl (by decide) (by decide) (by decide) ?_
 rintro x ⟨n,rfl⟩ ls hl hs
 obtain⟨a,b,c,rfl⟩:=cells3 rfl hl hs
 refine⟨.tuple #[.agg #[.int .i64 n], .bool true], .tup [.agg [di n],ab true], ?_, ?_,rfl, ?_⟩
 ·intro w
  simp[Instr.typeAssert,Tryz.underlying206]
 ·intro cx w r β
  simp[ReA,ReAs,ReC,ReCs,Rd,flat]
 ·simp only[zbF,plainO,List.map_cons,List.map_nil]
  first|refine zs0 ?_|exact zt0
  refine zL0 trivial ?_
  rfl
theorem zom:zpk prog 174 3:=by
 refine zeo zcV mixed (T:=Ty) func174 rfl rfl ntmps174 rfl rfl rfl rfl rfl rfl rfl (by decide) (y7:= .tuple #[.agg #[.int .i64 0], .bool false]) (V7:= .tup [.agg [di 0],ab false]) ?_ ?_ (by decide) rfl ?_
 ·intro w
  simp[Instr.typeAssert,Tryz.underlying206,zke (zis) w]
 ·intro cx w r β
  simp[ReA,ReAs,ReC,ReCs,Rd,flat]
 ·simp only[List.replicate]
  first|refine zs0 ?_|exact zt0
  exact zW0 trivial
theorem zft:zjS prog 198 [6,7,8] sz3 (nwT) (zkd 206):=by
 refine zfN zcV mixed (T:=Ty) func198 rfl rfl ntmps198 rfl rfl rfl rfl rfl rfl rfl (by decide) (by decide) (by decide) ?_
 rintro x ⟨n,rfl⟩ ls hl hs
 obtain⟨a,b,c,rfl⟩:=cells3 rfl hl hs
 refine⟨.tuple #[.agg #[.int .i64 n], .bool true], .tup [.agg [di n],ab true], ?_, ?_,rfl, ?_⟩
 ·intro w
  simp[Instr.typeAssert,Tryz.underlying206]
 ·intro cx w r β
  simp[ReA,ReAs,ReC,ReCs,Rd,flat]
 ·simp only[zbF,plainO,List.map_cons,List.map_nil]
  first|refine zs0 ?_|exact zt0
  refine zL0 trivial ?_
  rfl
theorem zgD:zpk prog 198 3:=by
 refine zeo zcV mixed (T:=Ty) func198 rfl rfl ntmps198 rfl rfl rfl rfl rfl rfl rfl (by decide) (y7:= .tuple #[.agg #[.int .i64 0], .bool false]) (V7:= .tup [.agg [di 0],ab false]) ?_ ?_ (by decide) rfl ?_
 ·intro w
  simp[Instr.typeAssert,Tryz.underlying206,zke (zis) w]
 ·intro cx w r β
  simp[ReA,ReAs,ReC,ReCs,Rd,flat]
 ·simp only[List.replicate]
  first|refine zs0 ?_|exact zt0
  exact zW0 trivial
abbrev asl (n:Nat) (ds:List D):AV:= .one (.d (.sl n ds))
abbrev rdr (n:Nat) (ds:List D) (p:Int):List RO:=[.d (.sl n ds), .d (iD p)]
theorem zr5 (n:Nat) (ds:List D) (p k:Nat) (hl:ds.length=n) (hn:n<2^62) (h:p+k≤n):
  CallOK prog 173 [.obj (rdr n ds p), .f (ai k)] (fun r o=>r=[.one (.d (.sl k ((ds.drop p).take k)))]∧o=[rdr n ds ((p+k:Nat):Int)]):=by
 refine zh func173 results173 ntmps173 call173 ?_
 simp only[f173,Option.getD]
 have h1:decide ((p:Int)<0)=false:=by simp
 have h2:decide ((p:Int)>(n:Int))=false:=by simp;omega
 have h3:IntKind.i64.wrap ((n:Int) - (p:Int))=(n:Int) - p:=wrap64 (by omega) (by omega)
 have h4:decide ((n:Int) - (p:Int)<(k:Int))=false:=by simp;omega
 have h5:IntKind.i64.wrap ((p:Int)+(k:Int))=((p+k:Nat):Int):=by rw[wrap64 (by omega) (by omega)];omega
 have h6:p+k - p=k:=by omega
 exact zW0 (I h1 (I h2 (I h3 (I h4 (I h5 (I h6 (I @Int.toNat_natCast hl)))))))
def zbQ (n:Nat) (p k:Int):Bool:=decide (p<0)||decide (p>(n:Int))||decide ((n:Int) - p<k)
theorem zjl (n:Nat) (ds:List D) (p k:Int) (hl:ds.length=n) (hn:n<2^62) (hp:i64 p) (h:zbQ n p k=true):
  zbZ prog 173 [.obj (rdr n ds p), .f (ai k)] (zfE 206 2):=by
 refine zhy func173 ntmps173 call173 ?_
 simp only[f173,Option.getD]
 unfold zbQ at h
 cases h1:decide (p<0)
 ·cases h2:decide (p>(n:Int))
  ·have h4:decide ((n:Int) - p<k)=true:=by rw[h1,h2]at h;simpa using h
   have h3:IntKind.i64.wrap ((n:Int) - p)=(n:Int) - p:=by
    simp at h1 h2
    exact wrap64 (by omega) (by omega)
   exact zW0 (I h1 (I h2 (I h3 (I h4 (I @zab hl)))))
  ·exact zW0 (I h1 (I h2 (I @zab hl)))
 ·exact zW0 (I h1 (I @zab hl))
end Go.Proofs.YtliimajkpggbhaaGreat
