import Derived.Test.YtiegkabcgokhkaaGreatK9
import Derived.Test.YtiegkabcgokhkaaGreatRM
set_option maxHeartbeats 8000000
namespace Go.Proofs.YtiegkabcgokhkaaGreat
open Go.Pk Tryz
set_option maxRecDepth 100000
set_option linter.unusedSimpArgs false
set_option linter.unusedVariables false
theorem sP:∀{a:List UInt8},Go.Op.bytesLess a a=false
 |[]=>rfl
 |a::x=>by rw[Go.Op.bytesLess,sP (a:=x)];simp
theorem AA:∀{a b c:List UInt8},Go.Op.bytesLess a b=true->Go.Op.bytesLess b c=true->Go.Op.bytesLess a c=true
 |[],[],_,h,_=>by cases h
 |[],_::_,[],_,h=>by cases h
 |[],_::_,_::_,_,_=>rfl
 |_::_,[],_,h,_=>by cases h
 |_::_,_::_,[],_,h=>by cases h
 |a::x,b::y,c::z,h1,h2=>by
  rw[Go.Op.bytesLess]at*;simp only[nq,cu,eo,kN]at*;rcases h1 with h1|⟨rfl,h1⟩<;>rcases h2 with h2|⟨rfl,h2⟩
  .exact .inl (UInt8.lt_trans h1 h2)
  .exact .inl h1
  .exact .inl h2
  .exact .inr ⟨rfl,AA h1 h2⟩
theorem AZ {a b:List UInt8} (h:Go.Op.bytesLess a b=true):Go.Op.bytesLess b a=false:=by
 cases hc:Go.Op.bytesLess b a
 .rfl
 .have:=AA h hc;rw[sP]at this;cases this
theorem uz {α:Type} {q:Nat->α->Bool}:∀{l:List α} {j:Nat},fN q j l=true->∀(i:Nat) (hi:i<l.length),q (j+i) l[i]=true
 |[],_,_,i,hi=>by cases hi
 |a::l,j,h,i,hi=>by
  rw[fN]at h;split at h
  .rename_i hq;cases i with
   |zero=>exact hq
   |succ i=>
    have:=uz h i (by simpa using hi);rw[show j+(i+1)=j+1+i from by omega];exact this
  .cases h
theorem xu {l:List bt} {i:Nat} {g:bt} (h:gP l i g=true):dF g.name=true/\1≤g.token/\g.token≤2305843009213693952/\(0<i->lC (nH l i) g.name=true):=by unfold gP at h;have hH:ep=2305843009213693952:=rfl;simp only[jF,kU,iP,hH,Bool.and_eq_false_imp,eo,Bool.not_eq_false']at h;obtain⟨⟨⟨h1,h2⟩,h3⟩,h4⟩:=h;refine⟨by simpa using h1,by omega,by omega,λ hi=>by simpa using h4 hi⟩
theorem uc (r:cB) (h:dR r=true):ae prog 154 [.f (.agg r.aJ)] (λ x o=>x=[rb true]/\o=[]):=by
 obtain⟨f1,f2,f3,f4,f5⟩:=iY h;have hgr:=mK h;have hB:(decide ((r.held.length:Int)>4)||((r.aF==0)&&decide ((r.held.length:Int)>0)))=false:=by unfold dR at h;simp only[cu,jF]at h;exact h.1.2
 simp only[kU]at hB;obtain⟨hB1,hB2⟩:=hB;refine aR aO mixed (T:=Ty) (n:=84) func154 (c:=f154.body.getD .skip) rfl results154 ntmps154 call154 ?_;simp only[f154,Option.getD];have g1:decide (r.code<0)=false:=by simp;omega
 have g2:decide (r.code>12)=false:=by simp;omega
 have g3:decide (r.aF≥0)=true:=by simp;omega
 have g4:decide (r.aF≤2305843009213693952)=true:=by simp;omega
 have g5:decide (r.ahead<0)=false:=by simp;omega
 have g6:decide (r.ahead>3)=false:=by simp;omega
 have hh:=sv r.aF 0;rw[g3,g4]at hh;cases hs:(r.aF==0)
 .repeat'(first|(with_reducible first|refine aa _ _ ?_|refine ak ?_|refine ao ?_)|rw[af]|simp only[g1,g2,g5,g6,hB1,hs,iQ,zY,Int.reduceEq,Int.reduceBEq,Int.reduceBNe,Nat.reduceSub,Nat.reduceEqDiff,Nat.reduceAdd,Nat.reduceMul,Nat.reduceLeDiff,Nat.reduceLT,Nat.reduceBEq,reduceCtorEq]|((first|((try refine aD ?_);apply aE)|(apply aG;intro _));(solve|exact(hh)|(refine ae.le (hh) ?_;exact zM)|fail);try case hn=>rfl)|refine aj ?_|refine ag (λ hb=> ?_) (λ hb=> ?_)|(refine And.intro ?_ ?_;exact zI)|refine And.intro (λ hg=> ?_) (λ hg=> ?_)|exact zC|fail)
  refine gr (τ:=Nat) (λ i=>⟨[dd, .one (.ptr ⟨1,0,1⟩ 0),dd,ai i,dd,dd,dd,dd,dd,dd,dd,dd,dd,dd,dd,dd,dd,dd,dd,dd,dd,dd,dd,dd,dd,dd,dd,dd,dd,dd,dd,dd,dd,dd,dd,dd,dd,dd,dd,dd,dd,dd,dd,dd,dd,dd,dd,dd,dd,dd,dd,dd,dd,dd,dd,dd,dd,dd,dd,dd,dd,dd,dd,dd,dd,dd,dd,dd,dd,dd,dd,dd,dd,dd,dd,dd,dd,dd,dd,dd,dd,dd,dd,dd],[(1,{next:=2,l:=[some {e:=1,var:=true,fz:=false,sz:=0,cells:=[di r.code,di r.aF,di r.ahead, .aJ r.held.length (ch r.held)]},none,none,none,none]}),(4,⟨2,[]⟩)]⟩)
   (λ i=>i≤r.held.length) (λ _=>()) (λ i=>r.held.length - i) 0
   (Gh.canon [1] [4] [] zK rfl rfl) (dA _) ?_
  intro i hi0 hF K hK
  repeat(first|with_reducible refine aa _ _ ?_|with_reducible refine ax (aa _ _) ?_|with_reducible refine ax (ax (aa _ _)) ?_|with_reducible refine ax (ax (ax (aa _ _))) ?_|rw[af]|simp only[zB,Nat.reduceSub,Nat.reduceEqDiff,Nat.reduceAdd,Nat.reduceMul,Nat.reduceLeDiff,Nat.reduceLT,Nat.reduceBEq,reduceCtorEq])
  refine ag (λ hlt=> ?_) (λ hge=> ?_)
  .have hi:i<r.held.length:=by simpa using hlt
   have hat:=gL hi;have hw:=fv hi (by omega);have hq:=uz f5 i hi;rw[bC]at hq;obtain⟨q1,q2,q3,q4⟩:=xu hq;have hnm:=AP r.held[i].name (by have:=(hgr _ (ix hi)).1;omega);rw[q1]at hnm;have hhg:=sv r.held[i].token 1;rw[show decide (r.held[i].token≥1)=true from by simp;omega,show decide (r.held[i].token≤2305843009213693952)=true from by simp;omega]at hhg;cases e0:decide ((i:Int)>0)
   .have h0:i=0:=by simpa using e0
    have hp:(ch r.held).drop ((IntKind.i64.wrap ((i:Int) - 1)).toNat*2)=r.held[i].enc++ch (r.held.drop (i+1)):=by rw[←gL hi,h0];rfl
    repeat'(first|(with_reducible first|refine aa _ _ ?_|refine ak ?_|refine ao ?_)|rw[af]|simp only[hat,hp,e0,eD,eJ,en,iQ,zY,Int.reduceEq,Int.reduceBEq,Int.reduceBNe,Nat.reduceSub,Nat.reduceEqDiff,Nat.reduceAdd,Nat.reduceMul,Nat.reduceLeDiff,Nat.reduceLT,Nat.reduceBEq,reduceCtorEq]|((first|((try refine aD ?_);apply aE)|(apply aG;intro _));(solve|exact(hnm)|exact(hhg)|(refine ae.le (hnm) ?_;exact zM)|(refine ae.le (hhg) ?_;exact zM)|fail);try case hn=>rfl)|refine aj ?_|refine ag (λ hb=> ?_) (λ hb=> ?_)|(refine And.intro ?_ ?_;exact zI)|refine And.intro (λ hg=> ?_) (λ hg=> ?_)|exact zC|fail)
    exact hK _ (i+1) (Gh.canon [1] [] [] (by simp only[hw,bN,bS,bW,bR,bT,bU,bV,bM,bO,bL,bH,bK,bX,D.v.injEq,bY];try(repeat'(first|rfl|omega|with_reducible apply And.intro))) rfl rfl) hi rfl (by omega)
   .have h0:0<i:=by simpa using e0
    have hw1:IntKind.i64.wrap ((i:Int) - 1)=((i - 1:Nat):Int):=by rw[wrap64 (by omega) (by omega)];omega
    have hlt1:decide (((i - 1:Nat):Int)<(r.held.length:Int))=true:=by simp;omega
    have hp:=gL (l:=r.held) (i:=i - 1) (by omega);have hb:lC (r.held[i - 1]'(by omega)).name r.held[i].name=true:=by have:=q4 h0;unfold nH at this;rw[eC (by omega)]at this;exact this
    have hb1:=AZ hb;have hb2:(r.held[i].name.toList==(r.held[i - 1]'(by omega)).name.toList)=false:=by rw[beq_eq_false_iff_ne];intro he;rw[lC,he,sP]at hb;cases hb
    repeat'(first|(with_reducible first|refine aa _ _ ?_|refine ak ?_|refine ao ?_)|rw[af]|simp only[hat,hp,hw1,e0,hb1,hb2,eD,eJ,en,iQ,gQ,zY,Int.reduceEq,Int.reduceBEq,Int.reduceBNe,Nat.reduceSub,Nat.reduceEqDiff,Nat.reduceAdd,Nat.reduceMul,Nat.reduceLeDiff,Nat.reduceLT,Nat.reduceBEq,reduceCtorEq]|((first|((try refine aD ?_);apply aE)|(apply aG;intro _));(solve|exact(hnm)|exact(hhg)|(refine ae.le (hnm) ?_;exact zM)|(refine ae.le (hhg) ?_;exact zM)|fail);try case hn=>rfl)|refine aj ?_|refine ag (λ hb=> ?_) (λ hb=> ?_)|(refine And.intro ?_ ?_;exact zI)|refine And.intro (λ hg=> ?_) (λ hg=> ?_)|exact zC|fail)
    exact hK _ (i+1) (Gh.canon [1] [] [] (by simp only[hw,bN,bS,bW,bR,bT,bU,bV,bM,bO,bL,bH,bK,bX,D.v.injEq,bY];try(repeat'(first|rfl|omega|with_reducible apply And.intro))) rfl rfl) hi rfl (by omega)
  .have hi:i=r.held.length:=by
    have:¬(i:Int)<r.held.length:=by simpa using hge
    omega
   repeat'(first|(with_reducible first|refine aa _ _ ?_|refine ak ?_|refine ao ?_)|rw[af]|simp only[zY,Int.reduceEq,Int.reduceBEq,Int.reduceBNe,Nat.reduceSub,Nat.reduceEqDiff,Nat.reduceAdd,Nat.reduceMul,Nat.reduceLeDiff,Nat.reduceLT,Nat.reduceBEq,reduceCtorEq]|refine aj ?_|refine ag (λ hb=> ?_) (λ hb=> ?_)|(refine And.intro ?_ ?_;exact zI)|refine And.intro (λ hg=> ?_) (λ hg=> ?_)|exact zC|fail)
 .have h0:decide ((r.held.length:Int)>0)=false:=by rw[hs,kh]at hB2;exact hB2
  repeat'(first|(with_reducible first|refine aa _ _ ?_|refine ak ?_|refine ao ?_)|rw[af]|simp only[g1,g2,g5,g6,hB1,hs,h0,iQ,zY,Int.reduceEq,Int.reduceBEq,Int.reduceBNe,Nat.reduceSub,Nat.reduceEqDiff,Nat.reduceAdd,Nat.reduceMul,Nat.reduceLeDiff,Nat.reduceLT,Nat.reduceBEq,reduceCtorEq]|((first|((try refine aD ?_);apply aE)|(apply aG;intro _));(solve|exact(hh)|(refine ae.le (hh) ?_;exact zM)|fail);try case hn=>rfl)|refine aj ?_|refine ag (λ hb=> ?_) (λ hb=> ?_)|(refine And.intro ?_ ?_;exact zI)|refine And.intro (λ hg=> ?_) (λ hg=> ?_)|exact zC|fail)
  refine gr (τ:=Nat) (λ i=>⟨[dd, .one (.ptr ⟨1,0,1⟩ 0),dd,ai i,dd,dd,dd,dd,dd,dd,dd,dd,dd,dd,dd,dd,dd,dd,dd,dd,dd,dd,dd,dd,dd,dd,dd,dd,dd,dd,dd,dd,dd,dd,dd,dd,dd,dd,dd,dd,dd,dd,dd,dd,dd,dd,dd,dd,dd,dd,dd,dd,dd,dd,dd,dd,dd,dd,dd,dd,dd,dd,dd,dd,dd,dd,dd,dd,dd,dd,dd,dd,dd,dd,dd,dd,dd,dd,dd,dd,dd,dd,dd,dd],[(1,{next:=2,l:=[some {e:=1,var:=true,fz:=false,sz:=0,cells:=[di r.code,di r.aF,di r.ahead, .aJ r.held.length (ch r.held)]},none,none,none,none]}),(4,⟨2,[]⟩)]⟩)
   (λ i=>i≤r.held.length) (λ _=>()) (λ i=>r.held.length - i) 0
   (Gh.canon [1] [4] [] zK rfl rfl) (dA _) ?_
  intro i hi0 hF K hK
  repeat(first|with_reducible refine aa _ _ ?_|with_reducible refine ax (aa _ _) ?_|with_reducible refine ax (ax (aa _ _)) ?_|with_reducible refine ax (ax (ax (aa _ _))) ?_|rw[af]|simp only[zB,Nat.reduceSub,Nat.reduceEqDiff,Nat.reduceAdd,Nat.reduceMul,Nat.reduceLeDiff,Nat.reduceLT,Nat.reduceBEq,reduceCtorEq])
  refine ag (λ hlt=> ?_) (λ hge=> ?_)
  .have hi:i<r.held.length:=by simpa using hlt
   have hat:=gL hi;have hw:=fv hi (by omega);have hq:=uz f5 i hi;rw[bC]at hq;obtain⟨q1,q2,q3,q4⟩:=xu hq;have hnm:=AP r.held[i].name (by have:=(hgr _ (ix hi)).1;omega);rw[q1]at hnm;have hhg:=sv r.held[i].token 1;rw[show decide (r.held[i].token≥1)=true from by simp;omega,show decide (r.held[i].token≤2305843009213693952)=true from by simp;omega]at hhg;cases e0:decide ((i:Int)>0)
   .have h0:i=0:=by simpa using e0
    have hp:(ch r.held).drop ((IntKind.i64.wrap ((i:Int) - 1)).toNat*2)=r.held[i].enc++ch (r.held.drop (i+1)):=by rw[←gL hi,h0];rfl
    repeat'(first|(with_reducible first|refine aa _ _ ?_|refine ak ?_|refine ao ?_)|rw[af]|simp only[hat,hp,e0,eD,eJ,en,iQ,zY,Int.reduceEq,Int.reduceBEq,Int.reduceBNe,Nat.reduceSub,Nat.reduceEqDiff,Nat.reduceAdd,Nat.reduceMul,Nat.reduceLeDiff,Nat.reduceLT,Nat.reduceBEq,reduceCtorEq]|((first|((try refine aD ?_);apply aE)|(apply aG;intro _));(solve|exact(hnm)|exact(hhg)|(refine ae.le (hnm) ?_;exact zM)|(refine ae.le (hhg) ?_;exact zM)|fail);try case hn=>rfl)|refine aj ?_|refine ag (λ hb=> ?_) (λ hb=> ?_)|(refine And.intro ?_ ?_;exact zI)|refine And.intro (λ hg=> ?_) (λ hg=> ?_)|exact zC|fail)
    exact hK _ (i+1) (Gh.canon [1] [] [] (by simp only[hw,bN,bS,bW,bR,bT,bU,bV,bM,bO,bL,bH,bK,bX,D.v.injEq,bY];try(repeat'(first|rfl|omega|with_reducible apply And.intro))) rfl rfl) hi rfl (by omega)
   .have h0:0<i:=by simpa using e0
    have hw1:IntKind.i64.wrap ((i:Int) - 1)=((i - 1:Nat):Int):=by rw[wrap64 (by omega) (by omega)];omega
    have hlt1:decide (((i - 1:Nat):Int)<(r.held.length:Int))=true:=by simp;omega
    have hp:=gL (l:=r.held) (i:=i - 1) (by omega);have hb:lC (r.held[i - 1]'(by omega)).name r.held[i].name=true:=by have:=q4 h0;unfold nH at this;rw[eC (by omega)]at this;exact this
    have hb1:=AZ hb;have hb2:(r.held[i].name.toList==(r.held[i - 1]'(by omega)).name.toList)=false:=by rw[beq_eq_false_iff_ne];intro he;rw[lC,he,sP]at hb;cases hb
    repeat'(first|(with_reducible first|refine aa _ _ ?_|refine ak ?_|refine ao ?_)|rw[af]|simp only[hat,hp,hw1,e0,hb1,hb2,eD,eJ,en,iQ,gQ,zY,Int.reduceEq,Int.reduceBEq,Int.reduceBNe,Nat.reduceSub,Nat.reduceEqDiff,Nat.reduceAdd,Nat.reduceMul,Nat.reduceLeDiff,Nat.reduceLT,Nat.reduceBEq,reduceCtorEq]|((first|((try refine aD ?_);apply aE)|(apply aG;intro _));(solve|exact(hnm)|exact(hhg)|(refine ae.le (hnm) ?_;exact zM)|(refine ae.le (hhg) ?_;exact zM)|fail);try case hn=>rfl)|refine aj ?_|refine ag (λ hb=> ?_) (λ hb=> ?_)|(refine And.intro ?_ ?_;exact zI)|refine And.intro (λ hg=> ?_) (λ hg=> ?_)|exact zC|fail)
    exact hK _ (i+1) (Gh.canon [1] [] [] (by simp only[hw,bN,bS,bW,bR,bT,bU,bV,bM,bO,bL,bH,bK,bX,D.v.injEq,bY];try(repeat'(first|rfl|omega|with_reducible apply And.intro))) rfl rfl) hi rfl (by omega)
  .have hi:i=r.held.length:=by
    have:¬(i:Int)<r.held.length:=by simpa using hge
    omega
   repeat'(first|(with_reducible first|refine aa _ _ ?_|refine ak ?_|refine ao ?_)|rw[af]|simp only[zY,Int.reduceEq,Int.reduceBEq,Int.reduceBNe,Nat.reduceSub,Nat.reduceEqDiff,Nat.reduceAdd,Nat.reduceMul,Nat.reduceLeDiff,Nat.reduceLT,Nat.reduceBEq,reduceCtorEq]|refine aj ?_|refine ag (λ hb=> ?_) (λ hb=> ?_)|(refine And.intro ?_ ?_;exact zI)|refine And.intro (λ hg=> ?_) (λ hg=> ?_)|exact zC|fail)
theorem tX (m:cG) (h:dQ m=true):ae prog 113 [.f (.agg m.aJ)] (λ x o=>x=[rb true]/\o=[]):=by
 refine aR aO mixed (T:=Ty) (n:=21) func113 (c:=f113.body.getD .skip) rfl results113 ntmps113 call113 ?_;simp only[f113,Option.getD];obtain⟨f1,f2,f3⟩:=lX h;have g1:decide (m.bh≥0)=true:=by simp;omega
 have g2:decide (m.bh<8)=true:=by simp;omega
 have hh:=sv m.seq 1;rw[show decide (m.seq≥1)=true from by simp;omega,show decide (m.seq≤2305843009213693952)=true from by simp;omega]at hh
 repeat'(first|(with_reducible first|refine aa _ _ ?_|refine ak ?_|refine ao ?_)|rw[af]|simp only[g1,g2,iQ,zY,Int.reduceEq,Int.reduceBEq,Int.reduceBNe,Nat.reduceSub,Nat.reduceEqDiff,Nat.reduceAdd,Nat.reduceMul,Nat.reduceLeDiff,Nat.reduceLT,Nat.reduceBEq,reduceCtorEq]|((first|((try refine aD ?_);apply aE)|(apply aG;intro _));(solve|exact(hh)|exact(uc m.cf f3)|(refine ae.le (hh) ?_;exact zM)|(refine ae.le (uc m.cf f3) ?_;exact zM)|fail);try case hn=>rfl)|refine aj ?_|refine ag (λ hb=> ?_) (λ hb=> ?_)|(refine And.intro ?_ ?_;exact zI)|refine And.intro (λ hg=> ?_) (λ hg=> ?_)|exact zC|fail)
theorem Li (m:cG) (h:dQ m=true):ae prog 75 [.f (.agg ((po m).map C.d))] (λ x o=>x=[rb true]/\o=[]):=by
 refine aR aO mixed (T:=Ty) (n:=57) func75 (c:=f75.body.getD .skip) rfl results75 ntmps75 call75 ?_;simp only[f75,Option.getD];have hr:=(ug h).1;have hh:=Kp 0 0;rw[show(decide ((0:Int)≥0)&&decide ((0:Int)≤2305843009213693952))=true from rfl]at hh
 repeat'(first|(with_reducible first|refine aa _ _ ?_|refine ak ?_|refine ao ?_)|rw[af]|simp only[zY,Int.reduceEq,Int.reduceBEq,Int.reduceBNe,Nat.reduceSub,Nat.reduceEqDiff,Nat.reduceAdd,Nat.reduceMul,Nat.reduceLeDiff,Nat.reduceLT,Nat.reduceBEq,reduceCtorEq]|((first|((try refine aD ?_);apply aE)|(apply aG;intro _));(solve|exact(Bx m)|exact(zq m hr)|exact(hh)|exact(tX m h)|(refine ae.le (Bx m) ?_;exact zM)|(refine ae.le (zq m hr) ?_;exact zM)|(refine ae.le (hh) ?_;exact zM)|(refine ae.le (tX m h) ?_;exact zM)|fail);try case hn=>rfl)|refine aj ?_|refine ag (λ hb=> ?_) (λ hb=> ?_)|(refine And.intro ?_ ?_;exact zI)|refine And.intro (λ hg=> ?_) (λ hg=> ?_)|exact zC|fail)
theorem Fi {a b:D}:cX (sub 0 2 1 [C.d a,C.d b])=some [a,b]:=rfl
theorem C6 {a:D} {n:Int}:cX (sub 0 9 1 (C.d a::List.map C.d (aI (b7 n))))=some (a::aI (b7 n)):=rfl
abbrev vK (r:cB):List C:=r.enc.map C.d
theorem IU (r:cB) (h:dR r=true):ae prog 118 [.f (.agg r.aJ)] (λ x o=>x=[.one (.own 1 (dz r).length (aI (dz r)) false),ri 0]/\o=[]):=by
 obtain⟨f1,f2,f3,f4,f5⟩:=iY h;have hgr:=mK h;refine aR aO mixed (T:=Ty) (n:=62) func118 (c:=f118.body.getD .skip) rfl results118 ntmps118 call118 ?_;simp only[f118,Option.getD];have hmy:=uc r h;have hpn:=vi r.aF (by omega);have w1:IntKind.u8.wrap r.code=r.code:=hC (by omega) (by omega);have w2:IntKind.u8.wrap r.ahead=r.ahead:=hC (by omega) (by omega);have w3:IntKind.u8.wrap (r.held.length:Int)=r.held.length:=hC (by omega) (by omega);have t1:(aI (b7 r.aF)).take 8=aI (b7 r.aF):=dX (by rw[iI];decide)
 repeat'(first|(with_reducible first|refine aa _ _ ?_|refine ak ?_|refine ao ?_)|rw[af]|simp only[Fi,C6,t1,w1,w2,w3,cF,ef,zY,Int.reduceEq,Int.reduceBEq,Int.reduceBNe,Nat.reduceSub,Nat.reduceEqDiff,Nat.reduceAdd,Nat.reduceMul,Nat.reduceLeDiff,Nat.reduceLT,Nat.reduceBEq,reduceCtorEq]|((first|((try refine aD ?_);apply aE)|(apply aG;intro _));(solve|exact(hmy)|exact(hpn)|(refine ae.le (hmy) ?_;exact zM)|(refine ae.le (hpn) ?_;exact zM)|fail);try case hn=>rfl)|refine aj ?_|refine ag (λ hb=> ?_) (λ hb=> ?_)|(refine And.intro ?_ ?_;exact zI)|refine And.intro (λ hg=> ?_) (λ hg=> ?_)|exact zC|fail)
 refine gr (τ:=Nat) (λ i=>⟨[dd, .one (.ptr ⟨1,0,1⟩ 0),dd,dd, .one (.own ⟨4,1,1⟩ 0 (cK r i).length),ai i,dd,dd,dd,dd,dd,dd,dd,dd,dd,dd,dd,dd,dd,dd,dd,dd,dd,dd,dd,dd,dd,dd,dd,dd,dd,dd,dd,dd,dd,dd,dd,dd,dd,dd,dd,dd,dd,dd,dd,dd,dd,dd,dd,dd,dd,dd,dd,dd,dd,dd,dd,dd,dd,dd,dd,dd],[(1,{next:=2,l:=[some {e:=1,var:=true,fz:=false,sz:=0,cells:=[di r.code,di r.aF,di r.ahead, .aJ r.held.length (ch r.held)]},none,none,none,none]}),(12,⟨2,[]⟩),(15,⟨2,[]⟩),(4,{next:=2,l:=[none,some {e:=1,var:=false,fz:=false,sz:=1,cells:=(aI (cK r i)).map C.d}]}),(25,⟨2,[]⟩),(43,⟨2,[]⟩),(44,⟨2,[]⟩),(51,⟨2,[]⟩),(59,⟨2,[]⟩),(60,⟨2,[]⟩)]⟩)
  (λ i=>i≤r.held.length) (λ _=>()) (λ i=>r.held.length - i) 0
  (Gh.canon [1,4] [43,44,51,59,60] [] (by simp only[rX,pQ,bN,bS,bW,bR,bT,bU,bV,bM,bO,bL,bH,bK,bX,D.v.injEq,bY];try(repeat'(first|rfl|omega|with_reducible apply And.intro))) rfl (by rw[rX];rfl)) (dA _) ?_
 intro i hi0 hF K hK
 repeat(first|with_reducible refine aa _ _ ?_|with_reducible refine ax (aa _ _) ?_|with_reducible refine ax (ax (aa _ _)) ?_|with_reducible refine ax (ax (ax (aa _ _))) ?_|rw[af]|simp only[zB,Nat.reduceSub,Nat.reduceEqDiff,Nat.reduceAdd,Nat.reduceMul,Nat.reduceLeDiff,Nat.reduceLT,Nat.reduceBEq,reduceCtorEq])
 refine ag (λ hlt=> ?_) (λ hge=> ?_)
 .have hi:i<r.held.length:=by simpa using hlt
  have hat:=gL hi;have hw:=fv hi (by omega);have hg:=hgr _ (ix hi);have hpm:=vi r.held[i].token hg.2;have hlb:(cK r i).length≤11+4*21:=by
   rw[cK,b6,pQ];have:=rr (l:=r.held.take i) (k:=12) λ g hx=>(hgr g (qw hx)).1
   have:(r.held.take i).length≤4:=by rw[gR];omega
   omega
  have w4:IntKind.u8.wrap (r.held[i].name.size:Int)=r.held[i].name.size:=hC (by omega) (by omega);have k3:(aI (cK r i)).take (cK r i).length=aI (cK r i):=dX (by rw[cF];exact Nat.le_refl _);have k2:(aI (b7 r.held[i].token)).take 8=aI (b7 r.held[i].token):=dX (by rw[iI];decide);have hle:((cK r i).length+1≤2^47)=True:=eN (by omega);have hle2:((cK r i).length+1+r.held[i].name.size≤2^47)=True:=eN (by omega);have hle3:((cK r i).length+1+r.held[i].name.size+8≤2^47)=True:=eN (by omega);have hsl:(cK r (i+1)).length=(cK r i).length+1+r.held[i].name.size+8:=by rw[rW hi,b6,b6,lp,ef];omega
  have k4:(aI (cK r i)++[D.v (Value.int .u8 (r.held[i].name.size:Int))]).take ((cK r i).length+1)=aI (cK r i)++[D.v (Value.int .u8 (r.held[i].name.size:Int))]:=dX (by rw[b6,cF];exact Nat.le_refl _);have k5:(aI (cK r i)++[D.v (Value.int .u8 (r.held[i].name.size:Int))]++s7 r.held[i].name).take ((cK r i).length+1+r.held[i].name.size)=aI (cK r i)++[D.v (Value.int .u8 (r.held[i].name.size:Int))]++s7 r.held[i].name:=dX (by rw[b6,b6,cF,cF,oE];exact Nat.le_refl _)
  repeat'(first|(with_reducible first|refine aa _ _ ?_|refine ak ?_|refine ao ?_)|rw[af]|simp only[hat,w4,k4,k5,eD,eJ,en,hle,hle2,hle3,k2,k3,oE,cF,ef,zY,Int.reduceEq,Int.reduceBEq,Int.reduceBNe,Nat.reduceSub,Nat.reduceEqDiff,Nat.reduceAdd,Nat.reduceMul,Nat.reduceLeDiff,Nat.reduceLT,Nat.reduceBEq,reduceCtorEq]|((first|((try refine aD ?_);apply aE)|(apply aG;intro _));(solve|exact(hpm)|(refine ae.le (hpm) ?_;exact zM)|fail);try case hn=>rfl)|refine aj ?_|refine ag (λ hb=> ?_) (λ hb=> ?_)|(refine And.intro ?_ ?_;exact zI)|refine And.intro (λ hg=> ?_) (λ hg=> ?_)|exact zC|fail)
  exact hK _ (i+1) (Gh.canon [1,4] [] [] (by simp only[hw,hsl,bN,bS,bW,bR,bT,bU,bV,bM,bO,bL,bH,bK,bX,D.v.injEq,bY];try(repeat'(first|rfl|omega|with_reducible apply And.intro))) rfl (by rw[rW hi];simp only[aI,List.map_append,gU,cJ,oW,jg,eD,eJ];rfl)) hi rfl (by omega)
 .have hi:i=r.held.length:=by
   have:¬(i:Int)<r.held.length:=by simpa using hge
   omega
  subst hi
  repeat'(first|(with_reducible first|refine aa _ _ ?_|refine ak ?_|refine ao ?_)|rw[af]|simp only[zY,Int.reduceEq,Int.reduceBEq,Int.reduceBNe,Nat.reduceSub,Nat.reduceEqDiff,Nat.reduceAdd,Nat.reduceMul,Nat.reduceLeDiff,Nat.reduceLT,Nat.reduceBEq,reduceCtorEq]|refine aj ?_|refine ag (λ hb=> ?_) (λ hb=> ?_)|(refine And.intro ?_ ?_;exact zI)|refine And.intro (λ hg=> ?_) (λ hg=> ?_)|exact zC|fail)
  rw[AY]
theorem IA (m:cG) (h:dQ m=true):ae prog 77 [.f (.agg m.aJ)] (λ x o=>x=[.one (.own 1 (dk m).length (aI (dk m)) false),ri 0]/\o=[]):=by
 refine aR aO mixed (T:=Ty) (n:=25) func77 (c:=f77.body.getD .skip) rfl results77 ntmps77 call77 ?_;simp only[f77,Option.getD];obtain⟨f1,f2,f3⟩:=lX h;have hmy:=tX m h;have hpr:=IU m.cf f3;have hpn:=vi m.seq (by omega);have hrl:=uC f3;have w1:IntKind.u8.wrap m.bh=m.bh:=hC (by omega) (by omega);have t2:(aI (dz m.cf)).take (dz m.cf).length=aI (dz m.cf):=dX (by rw[cF];exact Nat.le_refl _);have hle:(9+(dz m.cf).length≤2^47)=True:=eN (by omega);have t1:(aI (b7 m.seq)).take 8=aI (b7 m.seq):=dX (by rw[iI];decide)
 repeat'(first|(with_reducible first|refine aa _ _ ?_|refine ak ?_|refine ao ?_)|rw[af]|simp only[Fi,C6,w1,t1,t2,hle,cF,ef,zY,Int.reduceEq,Int.reduceBEq,Int.reduceBNe,Nat.reduceSub,Nat.reduceEqDiff,Nat.reduceAdd,Nat.reduceMul,Nat.reduceLeDiff,Nat.reduceLT,Nat.reduceBEq,reduceCtorEq]|((first|((try refine aD ?_);apply aE)|(apply aG;intro _));(solve|exact(hmy)|exact(hpr)|exact(hpn)|(refine ae.le (hmy) ?_;exact zM)|(refine ae.le (hpr) ?_;exact zM)|(refine ae.le (hpn) ?_;exact zM)|fail);try case hn=>rfl)|refine aj ?_|refine ag (λ hb=> ?_) (λ hb=> ?_)|(refine And.intro ?_ ?_;exact zI)|refine And.intro (λ hg=> ?_) (λ hg=> ?_)|exact zC|fail)
 rw[show(dk m).length=9+(dz m.cf).length from by simp[dk,ef];omega];simp[dk,aI]
theorem Af (m:cG) (h:dQ m=true):ae prog 48 [.f (.agg ((po m).map C.d))] (λ x o=>x=[.one (.own 1 (dW m).length (aI (dW m)) false),ri 0]/\o=[]):=by
 refine aR aO mixed (T:=Ty) (n:=112) func48 (c:=f48.body.getD .skip) rfl results48 ntmps48 call48 ?_;simp only[f48,Option.getD];have hmy:=Li m h;have hpt:=IA m h;have hw:IntKind.u8.wrap 2=2:=hC (by decide) (by decide);have hn:=rp h;have hle:(1+(dk m).length≤2^47)=True:=eN (by omega);have t2:(aI (dk m)).take (dk m).length=aI (dk m):=dX (by rw[cF];exact Nat.le_refl _)
 repeat'(first|(with_reducible first|refine aa _ _ ?_|refine ak ?_|refine ao ?_)|rw[af]|simp only[hw,hle,t2,cF,zY,Int.reduceEq,Int.reduceBEq,Int.reduceBNe,Nat.reduceSub,Nat.reduceEqDiff,Nat.reduceAdd,Nat.reduceMul,Nat.reduceLeDiff,Nat.reduceLT,Nat.reduceBEq,reduceCtorEq]|((first|((try refine aD ?_);apply aE)|(apply aG;intro _));(solve|exact(hmy)|exact(hpt)|(refine ae.le (hmy) ?_;exact zM)|(refine ae.le (hpt) ?_;exact zM)|fail);try case hn=>rfl)|refine aj ?_|refine ag (λ hb=> ?_) (λ hb=> ?_)|(refine And.intro ?_ ?_;exact zI)|refine And.intro (λ hg=> ?_) (λ hg=> ?_)|exact zC|fail)
 rw[show(dW m).length=1+(dk m).length from by unfold dW;rw[b6];rfl];rfl
theorem KV (m:cG) (h:dQ m=true):ae prog 18 [.f (ai m.bh), .f (ai m.seq), .f (.agg (vK m.cf))] (λ x o=>x=[.one (.own 1 (dW m).length (aI (dW m)) false)]/\o=[]):=by
 refine aR aO mixed (T:=Ty) (n:=19) func18 (c:=f18.body.getD .skip) rfl results18 ntmps18 call18 ?_;simp only[f18,Option.getD]
 repeat'(first|(with_reducible first|refine aa _ _ ?_|refine ak ?_|refine ao ?_)|rw[af]|simp only[zY,Int.reduceEq,Int.reduceBEq,Int.reduceBNe,Nat.reduceSub,Nat.reduceEqDiff,Nat.reduceAdd,Nat.reduceMul,Nat.reduceLeDiff,Nat.reduceLT,Nat.reduceBEq,reduceCtorEq]|((first|((try refine aD ?_);apply aE)|(apply aG;intro _));(solve|exact(Af m h)|(refine ae.le (Af m h) ?_;exact zM)|fail);try case hn=>rfl)|refine aj ?_|refine ag (λ hb=> ?_) (λ hb=> ?_)|(refine And.intro ?_ ?_;exact zI)|refine And.intro (λ hg=> ?_) (λ hg=> ?_)|exact zC|fail)
structure Cl where
 c:cU
 id:Int
 aF:Int
 has:List bt
 cW:Int
 asks:List Cm
 busy:Bool
 out:br
 first:Int
 iF:Bool
 last:Int
 seq:Int
 turn:Int
abbrev Cl.ro (K:Cl):List RO:=[.d (iD K.c.bw), .d (iD K.c.ey), .d (iD K.c.aV), .d (iD K.c.aT), .d (iD K.c.base), .d (iD K.c.cap), .d (iD K.c.fh), .d (iD K.c.wait), .d (iD K.c.fg), .d (iD K.c.eg), .d (iD K.c.b8),
 .d (iD K.id), .d (iD K.aF), .d (.sl K.has.length (ch K.has)), .d (iD K.cW), .own 3 K.asks.length (cH K.asks) true, .d (bD K.busy),
 .d (iD K.out.bh), .d (iD K.out.seq), .d (iD K.out.kind), .d (iD K.out.aF), .d (sD K.out.name), .d (iD K.first), .d (bD K.iF), .d (iD K.last), .d (iD K.seq), .d (iD K.turn)]
abbrev Cl.aJ (K:Cl):List C:=[di K.c.bw,di K.c.ey,di K.c.aV,di K.c.aT,di K.c.base,di K.c.cap,di K.c.fh,di K.c.wait,di K.c.fg,di K.c.eg,di K.c.b8,
 di K.id,di K.aF, .d (.sl K.has.length (ch K.has)),di K.cW, .aJ K.asks.length (cH K.asks),db K.busy,
 di K.out.bh,di K.out.seq,di K.out.kind,di K.out.aF,dS K.out.name,di K.first,db K.iF,di K.last,di K.seq,di K.turn]
abbrev Cl.at (K:Cl):AV:= .one (.dZ K.aJ)
def nQ (c:cU) (id:Int):Cl:=⟨c,id,0,[],0,[],false,⟨0,0,0,0, .empty⟩,0,false,0,0,id % c.bw⟩
theorem Bt (c:cU) (id:Int) (hc:nm c) (hi:0≤id/\id<c.ey):gy prog 10 [.f (.agg (c.enc.map C.d)), .f (ai id)] [ri 0] (nQ c id).ro:=by
 refine gy.gp (rfs:=[ri 0]) (l:=[.d (iD c.bw), .d (iD c.ey), .d (iD c.aV), .d (iD c.aT), .d (iD c.base), .d (iD c.cap), .d (iD c.fh), .d (iD c.wait), .d (iD c.fg), .d (iD c.eg), .d (iD c.b8),
  .d (iD id), .d (iD 0), .d (.v (.slice none 0 0)), .d (iD 0), .d (.v (.slice none 0 0)), .d (bD false),
  .d (iD 0), .d (iD 0), .d (iD 0), .d (iD 0), .d (sD .empty), .d (iD 0), .d (bD false), .d (iD 0), .d (iD 0), .d (iD (id % c.bw))]) ?_ cm (by simp[dv,eF,nQ])
 refine Aj aO mixed (T:=Ty) (n:=27) func10 (c:=f10.body.getD .skip) rfl results10 ntmps10 call10 ?_;simp only[f10,Option.getD];have h1:decide (id<0)=false:=by simp;omega
 have h2:decide (id≥c.ey)=false:=by simp;omega
 have hr:=hc.r;have h0:c.bw≠0:=by omega
 have htm:id.tmod c.bw=id % c.bw:=nC hi.1;have hcl:=hc.cl;have hb1:id % c.bw<c.bw:=qH _ (by omega);have hb0:0≤id % c.bw:=qJ _ h0;have hw:IntKind.i64.wrap (id % c.bw)=id % c.bw:=wrap64 (by omega) (by omega)
 repeat'(first|(with_reducible first|refine aa _ _ ?_|refine ak ?_|refine ao ?_)|rw[af]|simp only[h1,h2,ar h0,htm,hw,xy,zT,nh,sE,zY,Int.reduceEq,Int.reduceBEq,Int.reduceBNe,Nat.reduceSub,Nat.reduceEqDiff,Nat.reduceAdd,Nat.reduceMul,Nat.reduceLeDiff,Nat.reduceLT,Nat.reduceBEq,reduceCtorEq]|((first|((try refine aD ?_);apply aE)|(apply aG;intro _));(solve|exact(l6 c hc)|(refine ae.le (l6 c hc) ?_;exact zM)|fail);try case hn=>rfl)|refine aj ?_|refine ag (λ hb=> ?_) (λ hb=> ?_)|(refine And.intro ?_ ?_;exact zI)|refine And.intro (λ hg=> ?_) (λ hg=> ?_)|exact zC|fail)
def dB (K:Cl) (kind:Int) (name:ByteArray):Cl×Int:=
 if gz kind name=false then(K,1)else if K.asks.length≥4 then(K,5)else({K with asks:=K.asks++[⟨kind,0,name⟩]},0)
theorem BC (K:Cl) (kind:Int) (name:ByteArray) (hs:name.size<2^62) (hL:K.asks.length≤4):ae prog 15 [.obj K.ro, .f (ai kind), .f (mI name)] (λ r o=>r=[ri (dB K kind name).2]/\o=[(dB K kind name).1.ro]):=by
 refine ae.gp ?_;refine aR aO mixed (T:=Ty) (n:=39) func15 (c:=f15.body.getD .skip) rfl results15 ntmps15 call15 ?_;simp only[f15,Option.getD];have hnm:=qi name hs;cases hk:(kind==3||kind==4||kind==5)
 .simp only[kU]at hk;obtain⟨⟨k3,k4⟩,k5⟩:=hk;cases k6:(kind==6)
  .have hne:dB K kind name=(K,1):=by rw[dB,ay (by simp[gz,k3,k4,k5,k6])]
   rw[hne]
   repeat'(first|(with_reducible first|refine aa _ _ ?_|refine ak ?_|refine ao ?_)|rw[af]|simp only[k3,k4,k5,k6,zY,Int.reduceEq,Int.reduceBEq,Int.reduceBNe,Nat.reduceSub,Nat.reduceEqDiff,Nat.reduceAdd,Nat.reduceMul,Nat.reduceLeDiff,Nat.reduceLT,Nat.reduceBEq,reduceCtorEq]|refine aj ?_|refine ag (λ hb=> ?_) (λ hb=> ?_)|(refine And.intro ?_ ?_;exact zI)|refine And.intro (λ hg=> ?_) (λ hg=> ?_)|exact zC|fail)
   exact⟨cm,dj⟩
  .cases he:lx name
   .have hne:dB K kind name=(K,1):=by rw[dB,ay (by simp[gz,k3,k4,k5,k6,he])]
    rw[hne];unfold lx at he
    repeat'(first|(with_reducible first|refine aa _ _ ?_|refine ak ?_|refine ao ?_)|rw[af]|simp only[k3,k4,k5,k6,he,zY,Int.reduceEq,Int.reduceBEq,Int.reduceBNe,Nat.reduceSub,Nat.reduceEqDiff,Nat.reduceAdd,Nat.reduceMul,Nat.reduceLeDiff,Nat.reduceLT,Nat.reduceBEq,reduceCtorEq]|refine aj ?_|refine ag (λ hb=> ?_) (λ hb=> ?_)|(refine And.intro ?_ ?_;exact zI)|refine And.intro (λ hg=> ?_) (λ hg=> ?_)|exact zC|fail)
    exact⟨cm,dj⟩
   .cases hf:decide (K.asks.length≥4)
    .have hne:dB K kind name=({K with asks:=K.asks++[⟨kind,0,name⟩]},0):=by rw[dB,ar (by simp[gz,k3,k4,k5,k6,he]),ar (by simpa using hf)]
     rw[hne];have hf2:decide ((K.asks.length:Int)≥4)=false:=by simp at hf⊢;omega
     have hle:(K.asks.length+1≤2^47)=True:=eN (by omega);unfold lx at he
     repeat'(first|(with_reducible first|refine aa _ _ ?_|refine ak ?_|refine ao ?_)|rw[af]|simp only[k3,k4,k5,k6,he,hf2,hle,zY,Int.reduceEq,Int.reduceBEq,Int.reduceBNe,Nat.reduceSub,Nat.reduceEqDiff,Nat.reduceAdd,Nat.reduceMul,Nat.reduceLeDiff,Nat.reduceLT,Nat.reduceBEq,reduceCtorEq]|refine aj ?_|refine ag (λ hb=> ?_) (λ hb=> ?_)|(refine And.intro ?_ ?_;exact zI)|refine And.intro (λ hg=> ?_) (λ hg=> ?_)|exact zC|fail)
     refine And.intro cm ?_;simp[eK,dv,eF,l7,aS]
    .have hne:dB K kind name=(K,5):=by rw[dB,ar (by simp[gz,k3,k4,k5,k6,he]),ay (by simpa using hf)]
     rw[hne];have hf2:decide ((K.asks.length:Int)≥4)=true:=by simp at hf⊢;omega
     unfold lx at he
     repeat'(first|(with_reducible first|refine aa _ _ ?_|refine ak ?_|refine ao ?_)|rw[af]|simp only[k3,k4,k5,k6,he,hf2,zY,Int.reduceEq,Int.reduceBEq,Int.reduceBNe,Nat.reduceSub,Nat.reduceEqDiff,Nat.reduceAdd,Nat.reduceMul,Nat.reduceLeDiff,Nat.reduceLT,Nat.reduceBEq,reduceCtorEq]|refine aj ?_|refine ag (λ hb=> ?_) (λ hb=> ?_)|(refine And.intro ?_ ?_;exact zI)|refine And.intro (λ hg=> ?_) (λ hg=> ?_)|exact zC|fail)
     exact⟨cm,dj⟩
 .cases hn:dF name
  .have hne:dB K kind name=(K,1):=by rw[dB,ay (by simp[gz,hk,hn])]
   rw[hne];rw[hn]at hnm;cases k3:(kind==3)
   .cases k4:(kind==4)
    .have k5:(kind==5)=true:=by rw[k3,k4]at hk;simpa using hk
     repeat'(first|(with_reducible first|refine aa _ _ ?_|refine ak ?_|refine ao ?_)|rw[af]|simp only[k3,k4,k5,zY,Int.reduceEq,Int.reduceBEq,Int.reduceBNe,Nat.reduceSub,Nat.reduceEqDiff,Nat.reduceAdd,Nat.reduceMul,Nat.reduceLeDiff,Nat.reduceLT,Nat.reduceBEq,reduceCtorEq]|((first|((try refine aD ?_);apply aE)|(apply aG;intro _));(solve|exact(hnm)|(refine ae.le (hnm) ?_;exact zM)|fail);try case hn=>rfl)|refine aj ?_|refine ag (λ hb=> ?_) (λ hb=> ?_)|(refine And.intro ?_ ?_;exact zI)|refine And.intro (λ hg=> ?_) (λ hg=> ?_)|exact zC|fail)
     exact⟨cm,dj⟩
    .repeat'(first|(with_reducible first|refine aa _ _ ?_|refine ak ?_|refine ao ?_)|rw[af]|simp only[k3,k4,zY,Int.reduceEq,Int.reduceBEq,Int.reduceBNe,Nat.reduceSub,Nat.reduceEqDiff,Nat.reduceAdd,Nat.reduceMul,Nat.reduceLeDiff,Nat.reduceLT,Nat.reduceBEq,reduceCtorEq]|((first|((try refine aD ?_);apply aE)|(apply aG;intro _));(solve|exact(hnm)|(refine ae.le (hnm) ?_;exact zM)|fail);try case hn=>rfl)|refine aj ?_|refine ag (λ hb=> ?_) (λ hb=> ?_)|(refine And.intro ?_ ?_;exact zI)|refine And.intro (λ hg=> ?_) (λ hg=> ?_)|exact zC|fail)
     exact⟨cm,dj⟩
   .repeat'(first|(with_reducible first|refine aa _ _ ?_|refine ak ?_|refine ao ?_)|rw[af]|simp only[k3,zY,Int.reduceEq,Int.reduceBEq,Int.reduceBNe,Nat.reduceSub,Nat.reduceEqDiff,Nat.reduceAdd,Nat.reduceMul,Nat.reduceLeDiff,Nat.reduceLT,Nat.reduceBEq,reduceCtorEq]|((first|((try refine aD ?_);apply aE)|(apply aG;intro _));(solve|exact(hnm)|(refine ae.le (hnm) ?_;exact zM)|fail);try case hn=>rfl)|refine aj ?_|refine ag (λ hb=> ?_) (λ hb=> ?_)|(refine And.intro ?_ ?_;exact zI)|refine And.intro (λ hg=> ?_) (λ hg=> ?_)|exact zC|fail)
    exact⟨cm,dj⟩
  .rw[hn]at hnm;cases hf:decide (K.asks.length≥4)
   .have hne:dB K kind name=({K with asks:=K.asks++[⟨kind,0,name⟩]},0):=by rw[dB,ar (by simp[gz,hk,hn]),ar (by simpa using hf)]
    rw[hne];have hf2:decide ((K.asks.length:Int)≥4)=false:=by simp at hf⊢;omega
    have hle:(K.asks.length+1≤2^47)=True:=eN (by omega);cases k3:(kind==3)
    .cases k4:(kind==4)
     .have k5:(kind==5)=true:=by rw[k3,k4]at hk;simpa using hk
      repeat'(first|(with_reducible first|refine aa _ _ ?_|refine ak ?_|refine ao ?_)|rw[af]|simp only[k3,k4,k5,hf2,hle,zY,Int.reduceEq,Int.reduceBEq,Int.reduceBNe,Nat.reduceSub,Nat.reduceEqDiff,Nat.reduceAdd,Nat.reduceMul,Nat.reduceLeDiff,Nat.reduceLT,Nat.reduceBEq,reduceCtorEq]|((first|((try refine aD ?_);apply aE)|(apply aG;intro _));(solve|exact(hnm)|(refine ae.le (hnm) ?_;exact zM)|fail);try case hn=>rfl)|refine aj ?_|refine ag (λ hb=> ?_) (λ hb=> ?_)|(refine And.intro ?_ ?_;exact zI)|refine And.intro (λ hg=> ?_) (λ hg=> ?_)|exact zC|fail)
      refine And.intro cm ?_;simp[eK,dv,eF,l7,aS]
     .repeat'(first|(with_reducible first|refine aa _ _ ?_|refine ak ?_|refine ao ?_)|rw[af]|simp only[k3,k4,hf2,hle,zY,Int.reduceEq,Int.reduceBEq,Int.reduceBNe,Nat.reduceSub,Nat.reduceEqDiff,Nat.reduceAdd,Nat.reduceMul,Nat.reduceLeDiff,Nat.reduceLT,Nat.reduceBEq,reduceCtorEq]|((first|((try refine aD ?_);apply aE)|(apply aG;intro _));(solve|exact(hnm)|(refine ae.le (hnm) ?_;exact zM)|fail);try case hn=>rfl)|refine aj ?_|refine ag (λ hb=> ?_) (λ hb=> ?_)|(refine And.intro ?_ ?_;exact zI)|refine And.intro (λ hg=> ?_) (λ hg=> ?_)|exact zC|fail)
      refine And.intro cm ?_;simp[eK,dv,eF,l7,aS]
    .repeat'(first|(with_reducible first|refine aa _ _ ?_|refine ak ?_|refine ao ?_)|rw[af]|simp only[k3,hf2,hle,zY,Int.reduceEq,Int.reduceBEq,Int.reduceBNe,Nat.reduceSub,Nat.reduceEqDiff,Nat.reduceAdd,Nat.reduceMul,Nat.reduceLeDiff,Nat.reduceLT,Nat.reduceBEq,reduceCtorEq]|((first|((try refine aD ?_);apply aE)|(apply aG;intro _));(solve|exact(hnm)|(refine ae.le (hnm) ?_;exact zM)|fail);try case hn=>rfl)|refine aj ?_|refine ag (λ hb=> ?_) (λ hb=> ?_)|(refine And.intro ?_ ?_;exact zI)|refine And.intro (λ hg=> ?_) (λ hg=> ?_)|exact zC|fail)
     refine And.intro cm ?_;simp[eK,dv,eF,l7,aS]
   .have hne:dB K kind name=(K,5):=by rw[dB,ar (by simp[gz,hk,hn]),ay (by simpa using hf)]
    rw[hne];have hf2:decide ((K.asks.length:Int)≥4)=true:=by simp at hf⊢;omega
    cases k3:(kind==3)
    .cases k4:(kind==4)
     .have k5:(kind==5)=true:=by rw[k3,k4]at hk;simpa using hk
      repeat'(first|(with_reducible first|refine aa _ _ ?_|refine ak ?_|refine ao ?_)|rw[af]|simp only[k3,k4,k5,hf2,zY,Int.reduceEq,Int.reduceBEq,Int.reduceBNe,Nat.reduceSub,Nat.reduceEqDiff,Nat.reduceAdd,Nat.reduceMul,Nat.reduceLeDiff,Nat.reduceLT,Nat.reduceBEq,reduceCtorEq]|((first|((try refine aD ?_);apply aE)|(apply aG;intro _));(solve|exact(hnm)|(refine ae.le (hnm) ?_;exact zM)|fail);try case hn=>rfl)|refine aj ?_|refine ag (λ hb=> ?_) (λ hb=> ?_)|(refine And.intro ?_ ?_;exact zI)|refine And.intro (λ hg=> ?_) (λ hg=> ?_)|exact zC|fail)
      exact⟨cm,dj⟩
     .repeat'(first|(with_reducible first|refine aa _ _ ?_|refine ak ?_|refine ao ?_)|rw[af]|simp only[k3,k4,hf2,zY,Int.reduceEq,Int.reduceBEq,Int.reduceBNe,Nat.reduceSub,Nat.reduceEqDiff,Nat.reduceAdd,Nat.reduceMul,Nat.reduceLeDiff,Nat.reduceLT,Nat.reduceBEq,reduceCtorEq]|((first|((try refine aD ?_);apply aE)|(apply aG;intro _));(solve|exact(hnm)|(refine ae.le (hnm) ?_;exact zM)|fail);try case hn=>rfl)|refine aj ?_|refine ag (λ hb=> ?_) (λ hb=> ?_)|(refine And.intro ?_ ?_;exact zI)|refine And.intro (λ hg=> ?_) (λ hg=> ?_)|exact zC|fail)
      exact⟨cm,dj⟩
    .repeat'(first|(with_reducible first|refine aa _ _ ?_|refine ak ?_|refine ao ?_)|rw[af]|simp only[k3,hf2,zY,Int.reduceEq,Int.reduceBEq,Int.reduceBNe,Nat.reduceSub,Nat.reduceEqDiff,Nat.reduceAdd,Nat.reduceMul,Nat.reduceLeDiff,Nat.reduceLT,Nat.reduceBEq,reduceCtorEq]|((first|((try refine aD ?_);apply aE)|(apply aG;intro _));(solve|exact(hnm)|(refine ae.le (hnm) ?_;exact zM)|fail);try case hn=>rfl)|refine aj ?_|refine ag (λ hb=> ?_) (λ hb=> ?_)|(refine And.intro ?_ ?_;exact zI)|refine And.intro (λ hg=> ?_) (λ hg=> ?_)|exact zC|fail)
     exact⟨cm,dj⟩
theorem Ln (K:Cl) (hL:K.asks.length<2^30):ae prog 23 [.f K.at] (λ r o=>r=[.one (.own 3 K.asks.length (cH K.asks) false)]/\o=[]):=by
 refine aR aO mixed (T:=Ty) (n:=10) func23 (c:=f23.body.getD .skip) rfl results23 ntmps23 call23 ?_;simp only[f23,Option.getD]
 repeat'(first|(with_reducible first|refine aa _ _ ?_|refine ak ?_|refine ao ?_)|rw[af]|simp only[zY,Int.reduceEq,Int.reduceBEq,Int.reduceBNe,Nat.reduceSub,Nat.reduceEqDiff,Nat.reduceAdd,Nat.reduceMul,Nat.reduceLeDiff,Nat.reduceLT,Nat.reduceBEq,reduceCtorEq]|((first|((try refine aD ?_);apply aE)|(apply aG;intro _));(solve|exact(rj K.asks.length (cH K.asks) jZ (by omega))|(refine ae.le (rj K.asks.length (cH K.asks) jZ (by omega)) ?_;exact zM)|fail);try case hn=>rfl)|refine aj ?_|refine ag (λ hb=> ?_) (λ hb=> ?_)|(refine And.intro ?_ ?_;exact zI)|refine And.intro (λ hg=> ?_) (λ hg=> ?_)|exact zC|fail)
theorem uZ (K:Cl) (h:K.busy=false):ae prog 12 [.f K.at] (λ r o=>r=[.agg ((⟨0,0,0,0, .empty⟩:br).enc.map RO.d),rb false]/\o=[]):=by
 refine aR aO mixed (T:=Ty) (n:=18) func12 (c:=f12.body.getD .skip) rfl results12 ntmps12 call12 ?_;simp only[f12,Option.getD]
 repeat'(first|(with_reducible first|refine aa _ _ ?_|refine ak ?_|refine ao ?_)|rw[af]|simp only[h,zY,Int.reduceEq,Int.reduceBEq,Int.reduceBNe,Nat.reduceSub,Nat.reduceEqDiff,Nat.reduceAdd,Nat.reduceMul,Nat.reduceLeDiff,Nat.reduceLT,Nat.reduceBEq,reduceCtorEq]|refine aj ?_|refine ag (λ hb=> ?_) (λ hb=> ?_)|(refine And.intro ?_ ?_;exact zI)|refine And.intro (λ hg=> ?_) (λ hg=> ?_)|exact zC|fail)
theorem sm (K:Cl) (h:K.busy=true):ae prog 12 [.f K.at] (λ r o=>r=[.agg (K.out.enc.map RO.d),rb true]/\o=[]):=by
 refine aR aO mixed (T:=Ty) (n:=18) func12 (c:=f12.body.getD .skip) rfl results12 ntmps12 call12 ?_;simp only[f12,Option.getD]
 repeat'(first|(with_reducible first|refine aa _ _ ?_|refine ak ?_|refine ao ?_)|rw[af]|simp only[h,zY,Int.reduceEq,Int.reduceBEq,Int.reduceBNe,Nat.reduceSub,Nat.reduceEqDiff,Nat.reduceAdd,Nat.reduceMul,Nat.reduceLeDiff,Nat.reduceLT,Nat.reduceBEq,reduceCtorEq]|refine aj ?_|refine ag (λ hb=> ?_) (λ hb=> ?_)|(refine And.intro ?_ ?_;exact zI)|refine And.intro (λ hg=> ?_) (λ hg=> ?_)|exact zC|fail)
abbrev oM (K:Cl):List D:=[iD K.turn, .sl (iN K.out).length (iN K.out)]
theorem r9 (K:Cl) (now:Int) (hr:K.out.ok) (hm:br.may K.out=true):
  ae prog 37 [.obj K.ro, .f (ai now)] (λ r o=>r=[.one (.own 2 1 (oM K) false)]/\o=[({K with iF:=true,last:=now}:Cl).ro]):=by
 refine ae.gp ?_;refine aR aO mixed (T:=Ty) (n:=30) func37 (c:=f37.body.getD .skip) rfl results37 ntmps37 call37 ?_;simp only[f37,Option.getD];have hp:=uE K.out hr hm
 repeat'(first|(with_reducible first|refine aa _ _ ?_|refine ak ?_|refine ao ?_)|rw[af]|simp only[ml,zY,Int.reduceEq,Int.reduceBEq,Int.reduceBNe,Nat.reduceSub,Nat.reduceEqDiff,Nat.reduceAdd,Nat.reduceMul,Nat.reduceLeDiff,Nat.reduceLT,Nat.reduceBEq,reduceCtorEq]|((first|((try refine aD ?_);apply aE)|(apply aG;intro _));(solve|exact(hp)|(refine ae.le (hp) ?_;exact zM)|fail);try case hn=>rfl)|refine aj ?_|refine ag (λ hb=> ?_) (λ hb=> ?_)|(refine And.intro ?_ ?_;exact zI)|refine And.intro (λ hg=> ?_) (λ hg=> ?_)|exact zC|fail)
 exact⟨rfl,cm,dj⟩
theorem LX (K:Cl) (now:Int) (h0:0≤now/\now≤2305843009213693952) (hl:0≤K.last/\K.last≤2305843009213693952) (hb:K.busy=true) (hw:now - K.last<K.c.eg):
  ae prog 13 [.obj K.ro, .f (ai now)] (λ r o=>r=[.one (.d (.v (.slice none 0 0)))]/\o=[K.ro]):=by
 refine ae.gp ?_;refine aR aO mixed (T:=Ty) (n:=82) func13 (c:=f13.body.getD .skip) rfl results13 ntmps13 call13 ?_;simp only[f13,Option.getD];have h1:IntKind.i64.wrap (now - K.last)=now - K.last:=wrap64 (by omega) (by omega);have h2:decide (now - K.last<K.c.eg)=true:=by simpa using hw
 repeat'(first|(with_reducible first|refine aa _ _ ?_|refine ak ?_|refine ao ?_)|rw[af]|simp only[hb,h1,h2,zY,Int.reduceEq,Int.reduceBEq,Int.reduceBNe,Nat.reduceSub,Nat.reduceEqDiff,Nat.reduceAdd,Nat.reduceMul,Nat.reduceLeDiff,Nat.reduceLT,Nat.reduceBEq,reduceCtorEq]|((first|((try refine aD ?_);apply aE)|(apply aG;intro _));(solve|exact(fy now h0)|(refine ae.le (fy now h0) ?_;exact zM)|fail);try case hn=>rfl)|refine aj ?_|refine ag (λ hb=> ?_) (λ hb=> ?_)|(refine And.intro ?_ ?_;exact zI)|refine And.intro (λ hg=> ?_) (λ hg=> ?_)|exact zC|fail)
 refine⟨cm, ?_⟩;simp[eK,dv,eF,hb]
def sL (K:Cl) (now:Int):Cl:={K with turn:=(K.turn+1) % K.c.bw,iF:=true,last:=now}
theorem JK (K:Cl) (now:Int) (h0:0≤now/\now≤2305843009213693952) (hl:0≤K.last/\K.last≤2305843009213693952) (hb:K.busy=true) (hw:¬now - K.last<K.c.eg)
  (hr:K.out.ok) (hm:br.may K.out=true) (hc:1≤K.c.bw/\K.c.bw≤7) (ht:0≤K.turn/\K.turn<K.c.bw):
  ae prog 13 [.obj K.ro, .f (ai now)] (λ r o=>r=[.one (.own 2 1 (oM (sL K now)) false)]/\o=[(sL K now).ro]):=by
 refine ae.gp ?_;refine aR aO mixed (T:=Ty) (n:=82) func13 (c:=f13.body.getD .skip) rfl results13 ntmps13 call13 ?_;simp only[f13,Option.getD];have h1:IntKind.i64.wrap (now - K.last)=now - K.last:=wrap64 (by omega) (by omega);have h2:decide (now - K.last<K.c.eg)=false:=by simpa using hw
 have h3:IntKind.i64.wrap (K.turn+1)=K.turn+1:=wrap64 (by omega) (by omega);have h4:(K.turn+1).tmod K.c.bw=(K.turn+1) % K.c.bw:=nC (by omega);have h5:K.c.bw≠0:=by omega
 have hb1:(K.turn+1) % K.c.bw<K.c.bw:=qH _ (by omega);have hb0:0≤(K.turn+1) % K.c.bw:=qJ _ h5;have h6:IntKind.i64.wrap ((K.turn+1) % K.c.bw)=(K.turn+1) % K.c.bw:=wrap64 (by omega) (by omega);have hs:=r9 {K with turn:=(K.turn+1) % K.c.bw,busy:=true} now hr hm
 repeat'(first|(with_reducible first|refine aa _ _ ?_|refine ak ?_|refine ao ?_)|rw[af]|simp only[hb,h1,h2,h3,h4,ar h5,h6,zY,Int.reduceEq,Int.reduceBEq,Int.reduceBNe,Nat.reduceSub,Nat.reduceEqDiff,Nat.reduceAdd,Nat.reduceMul,Nat.reduceLeDiff,Nat.reduceLT,Nat.reduceBEq,reduceCtorEq]|((first|((try refine aD ?_);apply aE)|(apply aG;intro _));(solve|exact(fy now h0)|(refine ae.le (fy now h0) ?_;exact zM)|fail);try case hn=>rfl)|refine aj ?_|refine ag (λ hb=> ?_) (λ hb=> ?_)|(refine And.intro ?_ ?_;exact zI)|refine And.intro (λ hg=> ?_) (λ hg=> ?_)|exact zC|fail)
 refine jc (mv:= ?mv1) (aJ:= ?le1) 0 ?ha1 (hs) ?hb1 ?hc1
 case ha1=>(try simp only[zB,du,Nat.reduceSub,Nat.reduceEqDiff,Nat.reduceAdd,Nat.reduceMul,Nat.reduceLeDiff,Nat.reduceLT,Nat.reduceBEq,reduceCtorEq]);exact rfl
 case hb1=>(try simp only[zB,bA,Nat.reduceSub,Nat.reduceEqDiff,Nat.reduceAdd,Nat.reduceMul,Nat.reduceLeDiff,Nat.reduceLT,Nat.reduceBEq,reduceCtorEq]);repeat'(first|rfl|trivial|omega|with_reducible refine And.intro ?_ ?_)
 show aP _ _ _ _ _ _ _ _
 repeat'(first|(with_reducible first|refine aa _ _ ?_|refine ak ?_|refine ao ?_)|rw[af]|simp only[zY,Int.reduceEq,Int.reduceBEq,Int.reduceBNe,Nat.reduceSub,Nat.reduceEqDiff,Nat.reduceAdd,Nat.reduceMul,Nat.reduceLeDiff,Nat.reduceLT,Nat.reduceBEq,reduceCtorEq]|refine aj ?_|refine ag (λ hb=> ?_) (λ hb=> ?_)|(refine And.intro ?_ ?_;exact zI)|refine And.intro (λ hg=> ?_) (λ hg=> ?_)|exact zC|fail)
 unfold sL;rw[hb];exact⟨rfl,cm,dj⟩
end Go.Proofs.YtiegkabcgokhkaaGreat
