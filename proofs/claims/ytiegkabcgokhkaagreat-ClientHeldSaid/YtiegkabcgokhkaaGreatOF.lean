import Derived.Test.YtiegkabcgokhkaaGreatRE
set_option maxHeartbeats 8000000
namespace Go.Proofs.YtiegkabcgokhkaaGreat
open Go.Pk Tryz
set_option maxRecDepth 100000
set_option linter.unusedSimpArgs false
set_option linter.unusedVariables false
abbrev lC (a b:ByteArray):Bool:=Go.Op.bytesLess a.toList b.toList
def fN {α:Type} (q:Nat->α->Bool):Nat->List α->Bool
 |_,[]=>true
 |i,x::r=>if q i x=true then fN q (i+1) r else false
theorem ui {α:Type} {q:Nat->α->Bool} {l:List α} {i:Nat} (h:i<l.length):fN q i (l.drop i)=if q i l[i]=true then fN q (i+1) (l.drop (i+1))else false:=by rw[kn h,fN]
theorem Jk {α:Type} {q:Nat->α->Bool} {l:List α} {i:Nat} (h:i=l.length):fN q i (l.drop i)=true:=by rw[h,pb,fN]
def nH (l:List bt) (i:Nat):ByteArray:=(l[i - 1]?.map bt.name).getD .empty
def gP (l:List bt) (i:Nat) (g:bt):Bool:= !(!dF g.name||decide (g.token<1)||decide (g.token>ep)||(decide (i>0)&& !(lC (nH l i) g.name)))
def dR (r:cB):Bool:=
 !(decide (r.code<0)||decide (r.code>12)||decide (r.aF<0)||decide (r.aF>ep)||decide (r.ahead<0)||decide (r.ahead>3))&&
 !(decide ((r.held.length:Int)>4)||((r.aF==0)&&decide ((r.held.length:Int)>0)))&&fN (gP r.held) 0 r.held
def dQ (m:cG):Bool:=decide (m.bh≥0)&&decide (m.bh<8)&&decide (m.seq≥1)&&decide (m.seq≤ep)&&dR m.cf
def qg (r:cB):Prop:=r.held.length<2^30/\∀g∈r.held,g.name.size<2^62
theorem rn (r:cB) (hr:qg r):ae prog 133 [.f (.agg r.aJ)] (λ x o=>x=[rb (dR r)]/\o=[]):=by
 refine aR aO mixed (T:=Ty) (n:=87) func133 (c:=f133.body.getD .skip) rfl results133 ntmps133 call133 ?_;simp only[f133,Option.getD];obtain⟨h1,h2⟩:=hr;cases hA:(decide (r.code<0)||decide (r.code>12)||decide (r.aF<0)||decide (r.aF>2305843009213693952)||decide (r.ahead<0)||decide (r.ahead>3))
 .cases hB:(decide ((r.held.length:Int)>4)||(r.aF==0)&&decide ((r.held.length:Int)>0))
  .have hs:dR r=fN (gP r.held) 0 r.held:=by unfold dR;rw[show(decide (r.code<0)||decide (r.code>12)||decide (r.aF<0)||decide (r.aF>ep)||decide (r.ahead<0)||decide (r.ahead>3))=false from hA,hB];rfl
   rw[hs]
   repeat'(first|(with_reducible first|refine aa _ _ ?_|refine ak ?_|refine ao ?_)|rw[af]|simp only[hA,hB,zY,Int.reduceEq,Int.reduceBEq,Int.reduceBNe,Nat.reduceSub,Nat.reduceEqDiff,Nat.reduceAdd,Nat.reduceMul,Nat.reduceLeDiff,Nat.reduceLT,Nat.reduceBEq,reduceCtorEq]|refine aj ?_|refine ag (λ hb=> ?_) (λ hb=> ?_)|(refine And.intro ?_ ?_;exact zI)|refine And.intro (λ hg=> ?_) (λ hg=> ?_)|exact zC|fail)
   refine gr (τ:=Nat) (λ i=>⟨[dd, .one (.ptr ⟨1,0,1⟩ 0),dd,dd,dd,dd,dd,dd,dd,dd,dd,dd,dd,dd,dd,dd,dd,dd,dd,dd,dd,dd,dd,dd,dd,dd,dd,dd,dd,dd,dd,dd,dd,dd,dd,dd,dd,dd,dd,dd,dd,dd,dd,dd,dd,dd,dd,dd,dd,al r.held.length (ch r.held),ai r.held.length,ai i,dd,dd,dd,dd,dd,dd,dd,dd,dd,dd,dd,dd,dd,dd,dd,dd,dd,dd,dd,dd,dd,dd,dd,dd,dd,dd,dd,dd,dd,dd,dd,dd,dd,dd,dd],[(1,{next:=2,l:=[some {e:=1,var:=true,fz:=false,sz:=0,cells:=[di r.code,di r.aF,di r.ahead, .aJ r.held.length (ch r.held)]},none,none,none,none]}),(4,⟨2,[]⟩)]⟩)
    (λ i=>i≤r.held.length) (λ i=>fN (gP r.held) i (r.held.drop i)) (λ i=>r.held.length - i) 0
    (Gh.canon [1] [4] [] zK rfl rfl) (dA _) ?_
   intro i hi0 hF K hK;rw[gB]at hF
   repeat(first|with_reducible refine aa _ _ ?_|with_reducible refine ax (aa _ _) ?_|with_reducible refine ax (ax (aa _ _)) ?_|with_reducible refine ax (ax (ax (aa _ _))) ?_|rw[af]|simp only[zB,Nat.reduceSub,Nat.reduceEqDiff,Nat.reduceAdd,Nat.reduceMul,Nat.reduceLeDiff,Nat.reduceLT,Nat.reduceBEq,reduceCtorEq])
   refine ag (λ hlt=> ?_) (λ hge=> ?_)
   .have hi:i<r.held.length:=by simpa using hlt
    have hat:=gL hi;have hw:=fv hi (by omega);rw[ui hi]at hF;have hnm:=qi r.held[i].name (h2 _ (ix hi));cases e0:decide ((i:Int)>0)
    .have h0:i=0:=by simpa using e0
     have hq:gP r.held i r.held[i]= !(!dF r.held[i].name||decide (r.held[i].token<1)||decide (r.held[i].token>2305843009213693952)):=by
      unfold gP;have:decide (i>0)=false:=by simpa using e0
      rw[this,ko,Bool.or_false]
     have hp:(ch r.held).drop ((IntKind.i64.wrap ((i:Int) - 1)).toNat*2)=r.held[i].enc++ch (r.held.drop (i+1)):=by rw[←gL hi,h0];rfl
     repeat'(first|(with_reducible first|refine aa _ _ ?_|refine ak ?_|refine ao ?_)|rw[af]|simp only[hat,hp,e0,eD,eJ,en,zY,Int.reduceEq,Int.reduceBEq,Int.reduceBNe,Nat.reduceSub,Nat.reduceEqDiff,Nat.reduceAdd,Nat.reduceMul,Nat.reduceLeDiff,Nat.reduceLT,Nat.reduceBEq,reduceCtorEq]|((first|((try refine aD ?_);apply aE)|(apply aG;intro _));(solve|exact(hnm)|(refine ae.le (hnm) ?_;exact zM)|fail);try case hn=>rfl)|refine aj ?_|refine ag (λ hb=> ?_) (λ hb=> ?_)|(refine And.intro ?_ ?_;exact zI)|refine And.intro (λ hg=> ?_) (λ hg=> ?_)|exact zC|fail)
     .rw[hq,hb,ar (by simp)]at hF;rw[←hF]
     .exact hK _ (i+1) (Gh.canon [1] [] [] (by simp only[hw,bN,bS,bW,bR,bT,bU,bV,bM,bO,bL,bH,bK,bX,D.v.injEq,bY];try(repeat'(first|rfl|omega|with_reducible apply And.intro))) rfl rfl) hi (by rw[ui hi,hq,hb];rfl) (by omega)
    .have h0:0<i:=by simpa using e0
     have hq:gP r.held i r.held[i]= !(!dF r.held[i].name||decide (r.held[i].token<1)||decide (r.held[i].token>2305843009213693952)|| !(lC (r.held[i - 1]'(by omega)).name r.held[i].name)):=by
      unfold gP nH;have:decide (i>0)=true:=by simpa using e0
      rw[this,eC (by omega)];simp only[kh,fE,Option.getD_some]
     have hp:=gL (show i - 1<r.held.length by omega);have hw1:IntKind.i64.wrap ((i:Int) - 1)=((i - 1:Nat):Int):=by rw[wrap64 (by omega) (by omega)];omega
     repeat'(first|(with_reducible first|refine aa _ _ ?_|refine ak ?_|refine ao ?_)|rw[af]|simp only[hat,hp,hw1,e0,eD,eJ,en,zY,Int.reduceEq,Int.reduceBEq,Int.reduceBNe,Nat.reduceSub,Nat.reduceEqDiff,Nat.reduceAdd,Nat.reduceMul,Nat.reduceLeDiff,Nat.reduceLT,Nat.reduceBEq,reduceCtorEq]|((first|((try refine aD ?_);apply aE)|(apply aG;intro _));(solve|exact(hnm)|(refine ae.le (hnm) ?_;exact zM)|fail);try case hn=>rfl)|refine aj ?_|refine ag (λ hb=> ?_) (λ hb=> ?_)|(refine And.intro ?_ ?_;exact zI)|refine And.intro (λ hg=> ?_) (λ hg=> ?_)|exact zC|fail)
     .rw[hq,hb,ar (by simp)]at hF;rw[←hF]
     .exact hK _ (i+1) (Gh.canon [1] [] [] (by simp only[hw,bN,bS,bW,bR,bT,bU,bV,bM,bO,bL,bH,bK,bX,D.v.injEq,bY];try(repeat'(first|rfl|omega|with_reducible apply And.intro))) rfl rfl) hi (by rw[ui hi,hq,hb];rfl) (by omega)
   .have hi:i=r.held.length:=by
     have:¬(i:Int)<r.held.length:=by simpa using hge
     omega
    rw[Jk hi]at hF;rw[←hF]
    repeat'(first|(with_reducible first|refine aa _ _ ?_|refine ak ?_|refine ao ?_)|rw[af]|simp only[zY,Int.reduceEq,Int.reduceBEq,Int.reduceBNe,Nat.reduceSub,Nat.reduceEqDiff,Nat.reduceAdd,Nat.reduceMul,Nat.reduceLeDiff,Nat.reduceLT,Nat.reduceBEq,reduceCtorEq]|refine aj ?_|refine ag (λ hb=> ?_) (λ hb=> ?_)|(refine And.intro ?_ ?_;exact zI)|refine And.intro (λ hg=> ?_) (λ hg=> ?_)|exact zC|fail)
  .have hs:dR r=false:=by unfold dR;rw[hB,oS,oY,ko]
   rw[hs]
   repeat'(first|(with_reducible first|refine aa _ _ ?_|refine ak ?_|refine ao ?_)|rw[af]|simp only[hA,hB,zY,Int.reduceEq,Int.reduceBEq,Int.reduceBNe,Nat.reduceSub,Nat.reduceEqDiff,Nat.reduceAdd,Nat.reduceMul,Nat.reduceLeDiff,Nat.reduceLT,Nat.reduceBEq,reduceCtorEq]|refine aj ?_|refine ag (λ hb=> ?_) (λ hb=> ?_)|(refine And.intro ?_ ?_;exact zI)|refine And.intro (λ hg=> ?_) (λ hg=> ?_)|exact zC|fail)
 .have hs:dR r=false:=by unfold dR;rw[show(decide (r.code<0)||decide (r.code>12)||decide (r.aF<0)||decide (r.aF>ep)||decide (r.ahead<0)||decide (r.ahead>3))=true from hA];rfl
  rw[hs]
  repeat'(first|(with_reducible first|refine aa _ _ ?_|refine ak ?_|refine ao ?_)|rw[af]|simp only[hA,zY,Int.reduceEq,Int.reduceBEq,Int.reduceBNe,Nat.reduceSub,Nat.reduceEqDiff,Nat.reduceAdd,Nat.reduceMul,Nat.reduceLeDiff,Nat.reduceLT,Nat.reduceBEq,reduceCtorEq]|refine aj ?_|refine ag (λ hb=> ?_) (λ hb=> ?_)|(refine And.intro ?_ ?_;exact zI)|refine And.intro (λ hg=> ?_) (λ hg=> ?_)|exact zC|fail)
theorem ua (m:cG) (hr:qg m.cf):ae prog 92 [.f (.agg m.aJ)] (λ x o=>x=[rb (dQ m)]/\o=[]):=by
 refine aR aO mixed (T:=Ty) (n:=26) func92 (c:=f92.body.getD .skip) rfl results92 ntmps92 call92 ?_;simp only[f92,Option.getD]
 repeat'(first|(with_reducible first|refine aa _ _ ?_|refine ak ?_|refine ao ?_)|rw[af]|simp only[zY,Int.reduceEq,Int.reduceBEq,Int.reduceBNe,Nat.reduceSub,Nat.reduceEqDiff,Nat.reduceAdd,Nat.reduceMul,Nat.reduceLeDiff,Nat.reduceLT,Nat.reduceBEq,reduceCtorEq]|((first|((try refine aD ?_);apply aE)|(apply aG;intro _));(solve|exact(rn m.cf hr)|(refine ae.le (rn m.cf hr) ?_;exact zM)|fail);try case hn=>rfl)|refine aj ?_|refine ag (λ hb=> ?_) (λ hb=> ?_)|(refine And.intro ?_ ?_;exact zI)|refine And.intro (λ hg=> ?_) (λ hg=> ?_)|exact zC|fail)
 rfl
def fK (bs:List Int):Nat->Int->List bt->List bt×Int×Int
 |0,p,acc=>(acc,p,0)
 |k+1,p,acc=>
  if(dm bs p 12).2.2≠0 then([],0,(dm bs p 12).2.2)else
  if(cD bs (dm bs p 12).2.1).2.2≠0 then([],0,(cD bs (dm bs p 12).2.1).2.2)else
  fK bs k (cD bs (dm bs p 12).2.1).2.1 (acc++[⟨(dm bs p 12).1,(cD bs (dm bs p 12).2.1).1⟩])
abbrev NX (l:List bt):RF:= .one (.own 2 l.length (ch l) false)
theorem jB {n:Nat} (hn:n<2^60) {p:Int} (h:0≤p/\p≤n):i64 p:=by unfold i64;omega
theorem Kc (bs:List Int) (p:Int) (n:Nat) (h:fF bs) (hp:i64 p) (hn:n<2^20):
  ae prog 132 [.f (bE bs.length (aI bs)), .f (ai p), .f (ai n)] (λ r o=>r=[NX (fK bs n p []).1,ri (fK bs n p []).2.1,ri (fK bs n p []).2.2]/\o=[]):=by
 refine ae.nil ?_;refine aR aO mixed (T:=Ty) (n:=45) func132 (c:=f132.body.getD .skip) rfl results132 ntmps132 call132 ?_;simp only[f132,Option.getD]
 repeat'(first|(with_reducible first|refine aa _ _ ?_|refine ak ?_|refine ao ?_)|rw[af]|simp only[zY,Int.reduceEq,Int.reduceBEq,Int.reduceBNe,Nat.reduceSub,Nat.reduceEqDiff,Nat.reduceAdd,Nat.reduceMul,Nat.reduceLeDiff,Nat.reduceLT,Nat.reduceBEq,reduceCtorEq]|refine aj ?_|refine ag (λ hb=> ?_) (λ hb=> ?_)|(refine And.intro ?_ ?_;exact zI)|refine And.intro (λ hg=> ?_) (λ hg=> ?_)|exact zC|fail)
 refine gr (τ:=Nat×Int×List bt) (λ t=>⟨[bE bs.length (aI bs),ai t.2.1,dd,dd,dd,dd,dd,dd,dd, .one (.own ⟨9,1,1⟩ 0 t.2.2.length),dd,dd,ai n,ai t.1,dd,dd,dd,dd,dd,dd,dd,dd,dd,dd,dd,dd,dd,dd,dd,dd,dd,dd,dd,dd,dd,dd,dd,dd,dd,dd,dd,dd,dd,dd,dd],[(9,{next:=2,l:=[none,some {e:=1,var:=false,fz:=false,sz:=2,cells:=(ch t.2.2).map C.d}]}),(6,⟨2,[]⟩),(10,⟨2,[]⟩),(40,⟨2,[]⟩),(41,⟨2,[]⟩)]⟩)
  (λ t=>t.1≤n/\i64 t.2.1/\t.2.2.length=t.1) (λ t=>fK bs (n - t.1) t.2.1 t.2.2) (λ t=>n - t.1) (0,p,[])
  ((Gh.nil (i:=9) (s:=9) (sz:=2) rfl).trans (Gh.canon [9] [6,10,40,41] [] zK rfl rfl)) ⟨dA _,hp,rfl⟩ ?_
 intro⟨i,q,acc⟩ ⟨hi0,hq,ha⟩ hF K hK;simp only[nv]at hi0 hq ha hF hK⊢
 repeat(first|with_reducible refine aa _ _ ?_|with_reducible refine ax (aa _ _) ?_|with_reducible refine ax (ax (aa _ _)) ?_|with_reducible refine ax (ax (ax (aa _ _))) ?_|rw[af]|simp only[zB,Nat.reduceSub,Nat.reduceEqDiff,Nat.reduceAdd,Nat.reduceMul,Nat.reduceLeDiff,Nat.reduceLT,Nat.reduceBEq,reduceCtorEq])
 refine ag (λ hlt=> ?_) (λ hge=> ?_)
 .have hi:i<n:=by simpa using hlt
  have hw:=fv hi (by omega);have ht:=A7 bs q 12 h hq;have hm:=qa bs (dm bs q 12).2.1 h (jB h.l (yb h));have hst:n - i=(n - (i+1))+1:=by omega
  rw[hst,fK]at hF;have hle:(acc.length+1≤2^47)=True:=eN (by omega);cases e1:((dm bs q 12).2.2 !=0)
  .have e1':(dm bs q 12).2.2=0:=by simpa using e1
   rw[ar (by simp[e1'])]at hF;cases e2:((cD bs (dm bs q 12).2.1).2.2 !=0)
   .have e2':(cD bs (dm bs q 12).2.1).2.2=0:=by simpa using e2
    rw[ar (by simp[e2'])]at hF
    repeat'(first|(with_reducible first|refine aa _ _ ?_|refine ak ?_|refine ao ?_)|rw[af]|simp only[e1,e2,hle,zY,Int.reduceEq,Int.reduceBEq,Int.reduceBNe,Nat.reduceSub,Nat.reduceEqDiff,Nat.reduceAdd,Nat.reduceMul,Nat.reduceLeDiff,Nat.reduceLT,Nat.reduceBEq,reduceCtorEq]|((first|((try refine aD ?_);apply aE)|(apply aG;intro _));(solve|exact(ht)|exact(hm)|(refine ae.le (ht) ?_;exact zM)|(refine ae.le (hm) ?_;exact zM)|fail);try case hn=>rfl)|refine aj ?_|refine ag (λ hb=> ?_) (λ hb=> ?_)|(refine And.intro ?_ ?_;exact zI)|refine And.intro (λ hg=> ?_) (λ hg=> ?_)|exact zC|fail)
    refine hK _ (i+1,(cD bs (dm bs q 12).2.1).2.1,acc++[⟨(dm bs q 12).1,(cD bs (dm bs q 12).2.1).1⟩]) (Gh.canon [9] [] [] (by simp only[hw,b6,gD,bN,bS,bW,bR,bT,bU,bV,bM,bO,bL,bH,bK,bX,D.v.injEq,bY];try(repeat'(first|rfl|omega|with_reducible apply And.intro))) rfl (by simp only[b6,gD];rw[ue];rfl)) ⟨hi,jB h.l oh,by simp only[b6,gD];omega⟩ ?_ (by simp only;omega);simp only;rw[hst,fK,ar (by simp[e1']),ar (by simp[e2'])]
   .have e2':(cD bs (dm bs q 12).2.1).2.2≠0:=by simpa using e2
    rw[ay e2']at hF;rw[←hF]
    repeat'(first|(with_reducible first|refine aa _ _ ?_|refine ak ?_|refine ao ?_)|rw[af]|simp only[e1,e2,zY,Int.reduceEq,Int.reduceBEq,Int.reduceBNe,Nat.reduceSub,Nat.reduceEqDiff,Nat.reduceAdd,Nat.reduceMul,Nat.reduceLeDiff,Nat.reduceLT,Nat.reduceBEq,reduceCtorEq]|((first|((try refine aD ?_);apply aE)|(apply aG;intro _));(solve|exact(ht)|exact(hm)|(refine ae.le (ht) ?_;exact zM)|(refine ae.le (hm) ?_;exact zM)|fail);try case hn=>rfl)|refine aj ?_|refine ag (λ hb=> ?_) (λ hb=> ?_)|(refine And.intro ?_ ?_;exact zI)|refine And.intro (λ hg=> ?_) (λ hg=> ?_)|exact zC|fail)
    show aN _ _/\aN _ _/\aN _ _/\True;simp[aN]
  .have e1':(dm bs q 12).2.2≠0:=by simpa using e1
   rw[ay e1']at hF;rw[←hF]
   repeat'(first|(with_reducible first|refine aa _ _ ?_|refine ak ?_|refine ao ?_)|rw[af]|simp only[e1,zY,Int.reduceEq,Int.reduceBEq,Int.reduceBNe,Nat.reduceSub,Nat.reduceEqDiff,Nat.reduceAdd,Nat.reduceMul,Nat.reduceLeDiff,Nat.reduceLT,Nat.reduceBEq,reduceCtorEq]|((first|((try refine aD ?_);apply aE)|(apply aG;intro _));(solve|exact(ht)|exact(hm)|(refine ae.le (ht) ?_;exact zM)|(refine ae.le (hm) ?_;exact zM)|fail);try case hn=>rfl)|refine aj ?_|refine ag (λ hb=> ?_) (λ hb=> ?_)|(refine And.intro ?_ ?_;exact zI)|refine And.intro (λ hg=> ?_) (λ hg=> ?_)|exact zC|fail)
   show aN _ _/\aN _ _/\aN _ _/\True;simp[aN]
 .have hi:i=n:=by
   have:¬(i:Int)<n:=by simpa using hge
   omega
  rw[hi,Nat.sub_self,fK]at hF;rw[←hF]
  repeat'(first|(with_reducible first|refine aa _ _ ?_|refine ak ?_|refine ao ?_)|rw[af]|simp only[zY,Int.reduceEq,Int.reduceBEq,Int.reduceBNe,Nat.reduceSub,Nat.reduceEqDiff,Nat.reduceAdd,Nat.reduceMul,Nat.reduceLeDiff,Nat.reduceLT,Nat.reduceBEq,reduceCtorEq]|refine aj ?_|refine ag (λ hb=> ?_) (λ hb=> ?_)|(refine And.intro ?_ ?_;exact zI)|refine And.intro (λ hg=> ?_) (λ hg=> ?_)|exact zC|fail)
  show aN _ _/\aN _ _/\aN _ _/\True;simp[aN]
abbrev gG:cB:=⟨0,0,0,[]⟩
def jz (bs:List Int) (p:Int):cB×Int×Int:=
 if(bx bs p).2.2≠0 then(gG,0,(bx bs p).2.2)else
 let s:=cD bs (bx bs p).2.1
 if s.2.2≠0 then(gG,0,s.2.2)else
 let a:=bx bs s.2.1
 if a.2.2≠0 then(gG,0,a.2.2)else
 let n:=bx bs a.2.1
 if n.2.2≠0 then(gG,0,n.2.2)else
 if n.1>4 then(gG,0,4)else
 let g:=fK bs n.1.toNat n.2.1 []
 if g.2.2≠0 then(gG,0,g.2.2)else
 if dR ⟨(bx bs p).1,s.1,a.1,g.1⟩=false then(gG,0,4)else(⟨(bx bs p).1,s.1,a.1,g.1⟩,g.2.1,0)
theorem rR {bs:List Int} (h:fF bs) {p:Int}:bp (bx bs p).1:=by
 unfold bx;cases hs:eS bs.length p 1
 .obtain⟨h1,h2,h3⟩:=lr hs;rw[ar (by simp)];exact kC (by omega) h.b
 .rw[ay rfl];exact⟨by decide,by decide⟩
theorem uw {bs:List Int} {p most:Int}:(dm bs p most).1.size≤bs.length:=by
 unfold dm;split
 .simp
 .split
  .simp
  .split
   .simp
   .simp only[qD,ByteArray.size,qp,cF,gR,jE];omega
theorem uG {bs:List Int}:∀{n:Nat} {p:Int} {acc:List bt},(∀g∈acc,g.name.size≤bs.length)->(fK bs n p acc).1.length≤acc.length+n/\∀g∈(fK bs n p acc).1,g.name.size≤bs.length
 |0,p,acc,h=>⟨Nat.le_refl _,h⟩
 |n+1,p,acc,h=>by
  rw[fK];split
  .exact⟨dA _,by simp⟩
  .split
   .exact⟨dA _,by simp⟩
   .have:=uG (bs:=bs) (n:=n) (p:=(cD bs (dm bs p 12).2.1).2.1) (acc:=acc++[⟨(dm bs p 12).1,(cD bs (dm bs p 12).2.1).1⟩]) (λ g hg=>by
     rcases eE.1 hg with hg|hg
     .exact h g hg
     .simp at hg;subst hg;exact uw)
    rw[b6,gD]at this;exact⟨by omega,this.2⟩
abbrev sF (r:cB):RF:= .agg (r.enc.map RO.d)
theorem Jb (bs:List Int) (p:Int) (h:fF bs) (hp:i64 p):
  ae prog 91 [.f (bE bs.length (aI bs)), .f (ai p)] (λ r o=>r=[sF (jz bs p).1,ri (jz bs p).2.1,ri (jz bs p).2.2]/\o=[]):=by
 refine ae.nil ?_;refine aR aO mixed (T:=Ty) (n:=82) func91 (c:=f91.body.getD .skip) rfl results91 ntmps91 call91 ?_;simp only[f91,Option.getD];have hl:=h.l;have h1:=mY bs p h hp;have h2:=qa bs (bx bs p).2.1 h (jB h.l mO);have h3:=mY bs (cD bs (bx bs p).2.1).2.1 h (jB h.l oh);have h4:=mY bs (bx bs (cD bs (bx bs p).2.1).2.1).2.1 h (jB h.l mO);unfold jz;simp only;obtain⟨b,hb⟩:∃b,b=bx bs p:=⟨_,rfl⟩;rw[←hb]at h1 h2 h3 h4⊢;obtain⟨s,hs⟩:∃s,s=cD bs b.2.1:=⟨_,rfl⟩;rw[←hs]at h2 h3 h4⊢;obtain⟨a,ha⟩:∃a,a=bx bs s.2.1:=⟨_,rfl⟩;rw[←ha]at h3 h4⊢;obtain⟨n,hn⟩:∃n,n=bx bs a.2.1:=⟨_,rfl⟩;rw[←hn]at h4⊢;have hnv:bp n.1:=by rw[hn];exact rR h
 have hnn:i64 n.2.1:=by rw[hn];exact jB h.l mO
 have hbv:bp b.1:=by rw[hb];exact rR h
 unfold bp at hnv hbv;have h5:=Kc bs n.2.1 n.1.toNat h hnn (by omega);rw[Int.toNat_of_nonneg hnv.1]at h5;have hgk:=uG (bs:=bs) (n:=n.1.toNat) (p:=n.2.1) (acc:=[]) (by simp);obtain⟨g,hg⟩:∃g,g=fK bs n.1.toNat n.2.1 []:=⟨_,rfl⟩;rw[←hg]at h5 hgk⊢;have h6:=rn ⟨b.1,s.1,a.1,g.1⟩ ⟨by have:=hgk.1;simp only[iq]at this;simp only;omega,λ x hx=>by have:=hgk.2 x hx;omega⟩;clear hgk;cases e1:(b.2.2 !=0)
 .rw[ar (by simpa using e1)];cases e2:(s.2.2 !=0)
  .rw[ar (by simpa using e2)];cases e3:(a.2.2 !=0)
   .rw[ar (by simpa using e3)];cases e4:(n.2.2 !=0)
    .rw[ar (by simpa using e4)];cases e5:decide (n.1>4)
     .rw[ar (by simpa using e5)];cases e6:(g.2.2 !=0)
      .rw[ar (by simpa using e6)];cases e7:dR ⟨b.1,s.1,a.1,g.1⟩
       .rw[e7]at h6;rw[ay rfl]
        repeat'(first|(with_reducible first|refine aa _ _ ?_|refine ak ?_|refine ao ?_)|rw[af]|simp only[e1,e2,e3,e4,e5,e6,zY,Int.reduceEq,Int.reduceBEq,Int.reduceBNe,Nat.reduceSub,Nat.reduceEqDiff,Nat.reduceAdd,Nat.reduceMul,Nat.reduceLeDiff,Nat.reduceLT,Nat.reduceBEq,reduceCtorEq]|((first|((try refine aD ?_);apply aE)|(apply aG;intro _));(solve|exact(h1)|exact(h2)|exact(h3)|exact(h4)|exact(h5)|exact(h6)|(refine ae.le (h1) ?_;exact zM)|(refine ae.le (h2) ?_;exact zM)|(refine ae.le (h3) ?_;exact zM)|(refine ae.le (h4) ?_;exact zM)|(refine ae.le (h5) ?_;exact zM)|(refine ae.le (h6) ?_;exact zM)|fail);try case hn=>rfl)|refine aj ?_|refine ag (λ hb=> ?_) (λ hb=> ?_)|(refine And.intro ?_ ?_;exact zI)|refine And.intro (λ hg=> ?_) (λ hg=> ?_)|exact zC|fail)
        show(aN _ _/\aN _ _/\aN _ _/\aN _ _/\True)/\aN _ _/\aN _ _/\True;simp[aN, -List.length_flatMap,en]
       .rw[e7]at h6;rw[ar (by simp)]
        repeat'(first|(with_reducible first|refine aa _ _ ?_|refine ak ?_|refine ao ?_)|rw[af]|simp only[e1,e2,e3,e4,e5,e6,zY,Int.reduceEq,Int.reduceBEq,Int.reduceBNe,Nat.reduceSub,Nat.reduceEqDiff,Nat.reduceAdd,Nat.reduceMul,Nat.reduceLeDiff,Nat.reduceLT,Nat.reduceBEq,reduceCtorEq]|((first|((try refine aD ?_);apply aE)|(apply aG;intro _));(solve|exact(h1)|exact(h2)|exact(h3)|exact(h4)|exact(h5)|exact(h6)|(refine ae.le (h1) ?_;exact zM)|(refine ae.le (h2) ?_;exact zM)|(refine ae.le (h3) ?_;exact zM)|(refine ae.le (h4) ?_;exact zM)|(refine ae.le (h5) ?_;exact zM)|(refine ae.le (h6) ?_;exact zM)|fail);try case hn=>rfl)|refine aj ?_|refine ag (λ hb=> ?_) (λ hb=> ?_)|(refine And.intro ?_ ?_;exact zI)|refine And.intro (λ hg=> ?_) (λ hg=> ?_)|exact zC|fail)
        show(aN _ _/\aN _ _/\aN _ _/\aN _ _/\True)/\aN _ _/\aN _ _/\True;simp[aN, -List.length_flatMap,en]
      .rw[ay (by simpa using e6)]
       repeat'(first|(with_reducible first|refine aa _ _ ?_|refine ak ?_|refine ao ?_)|rw[af]|simp only[e1,e2,e3,e4,e5,e6,zY,Int.reduceEq,Int.reduceBEq,Int.reduceBNe,Nat.reduceSub,Nat.reduceEqDiff,Nat.reduceAdd,Nat.reduceMul,Nat.reduceLeDiff,Nat.reduceLT,Nat.reduceBEq,reduceCtorEq]|((first|((try refine aD ?_);apply aE)|(apply aG;intro _));(solve|exact(h1)|exact(h2)|exact(h3)|exact(h4)|exact(h5)|(refine ae.le (h1) ?_;exact zM)|(refine ae.le (h2) ?_;exact zM)|(refine ae.le (h3) ?_;exact zM)|(refine ae.le (h4) ?_;exact zM)|(refine ae.le (h5) ?_;exact zM)|fail);try case hn=>rfl)|refine aj ?_|refine ag (λ hb=> ?_) (λ hb=> ?_)|(refine And.intro ?_ ?_;exact zI)|refine And.intro (λ hg=> ?_) (λ hg=> ?_)|exact zC|fail)
       show(aN _ _/\aN _ _/\aN _ _/\aN _ _/\True)/\aN _ _/\aN _ _/\True;simp[aN, -List.length_flatMap,en]
     .rw[ay (by simpa using e5)]
      repeat'(first|(with_reducible first|refine aa _ _ ?_|refine ak ?_|refine ao ?_)|rw[af]|simp only[e1,e2,e3,e4,e5,zY,Int.reduceEq,Int.reduceBEq,Int.reduceBNe,Nat.reduceSub,Nat.reduceEqDiff,Nat.reduceAdd,Nat.reduceMul,Nat.reduceLeDiff,Nat.reduceLT,Nat.reduceBEq,reduceCtorEq]|((first|((try refine aD ?_);apply aE)|(apply aG;intro _));(solve|exact(h1)|exact(h2)|exact(h3)|exact(h4)|(refine ae.le (h1) ?_;exact zM)|(refine ae.le (h2) ?_;exact zM)|(refine ae.le (h3) ?_;exact zM)|(refine ae.le (h4) ?_;exact zM)|fail);try case hn=>rfl)|refine aj ?_|refine ag (λ hb=> ?_) (λ hb=> ?_)|(refine And.intro ?_ ?_;exact zI)|refine And.intro (λ hg=> ?_) (λ hg=> ?_)|exact zC|fail)
      show(aN _ _/\aN _ _/\aN _ _/\aN _ _/\True)/\aN _ _/\aN _ _/\True;simp[aN, -List.length_flatMap,en]
    .rw[ay (by simpa using e4)]
     repeat'(first|(with_reducible first|refine aa _ _ ?_|refine ak ?_|refine ao ?_)|rw[af]|simp only[e1,e2,e3,e4,zY,Int.reduceEq,Int.reduceBEq,Int.reduceBNe,Nat.reduceSub,Nat.reduceEqDiff,Nat.reduceAdd,Nat.reduceMul,Nat.reduceLeDiff,Nat.reduceLT,Nat.reduceBEq,reduceCtorEq]|((first|((try refine aD ?_);apply aE)|(apply aG;intro _));(solve|exact(h1)|exact(h2)|exact(h3)|exact(h4)|(refine ae.le (h1) ?_;exact zM)|(refine ae.le (h2) ?_;exact zM)|(refine ae.le (h3) ?_;exact zM)|(refine ae.le (h4) ?_;exact zM)|fail);try case hn=>rfl)|refine aj ?_|refine ag (λ hb=> ?_) (λ hb=> ?_)|(refine And.intro ?_ ?_;exact zI)|refine And.intro (λ hg=> ?_) (λ hg=> ?_)|exact zC|fail)
     show(aN _ _/\aN _ _/\aN _ _/\aN _ _/\True)/\aN _ _/\aN _ _/\True;simp[aN, -List.length_flatMap,en]
   .rw[ay (by simpa using e3)]
    repeat'(first|(with_reducible first|refine aa _ _ ?_|refine ak ?_|refine ao ?_)|rw[af]|simp only[e1,e2,e3,zY,Int.reduceEq,Int.reduceBEq,Int.reduceBNe,Nat.reduceSub,Nat.reduceEqDiff,Nat.reduceAdd,Nat.reduceMul,Nat.reduceLeDiff,Nat.reduceLT,Nat.reduceBEq,reduceCtorEq]|((first|((try refine aD ?_);apply aE)|(apply aG;intro _));(solve|exact(h1)|exact(h2)|exact(h3)|(refine ae.le (h1) ?_;exact zM)|(refine ae.le (h2) ?_;exact zM)|(refine ae.le (h3) ?_;exact zM)|fail);try case hn=>rfl)|refine aj ?_|refine ag (λ hb=> ?_) (λ hb=> ?_)|(refine And.intro ?_ ?_;exact zI)|refine And.intro (λ hg=> ?_) (λ hg=> ?_)|exact zC|fail)
    show(aN _ _/\aN _ _/\aN _ _/\aN _ _/\True)/\aN _ _/\aN _ _/\True;simp[aN, -List.length_flatMap,en]
  .rw[ay (by simpa using e2)]
   repeat'(first|(with_reducible first|refine aa _ _ ?_|refine ak ?_|refine ao ?_)|rw[af]|simp only[e1,e2,zY,Int.reduceEq,Int.reduceBEq,Int.reduceBNe,Nat.reduceSub,Nat.reduceEqDiff,Nat.reduceAdd,Nat.reduceMul,Nat.reduceLeDiff,Nat.reduceLT,Nat.reduceBEq,reduceCtorEq]|((first|((try refine aD ?_);apply aE)|(apply aG;intro _));(solve|exact(h1)|exact(h2)|(refine ae.le (h1) ?_;exact zM)|(refine ae.le (h2) ?_;exact zM)|fail);try case hn=>rfl)|refine aj ?_|refine ag (λ hb=> ?_) (λ hb=> ?_)|(refine And.intro ?_ ?_;exact zI)|refine And.intro (λ hg=> ?_) (λ hg=> ?_)|exact zC|fail)
   show(aN _ _/\aN _ _/\aN _ _/\aN _ _/\True)/\aN _ _/\aN _ _/\True;simp[aN, -List.length_flatMap,en]
 .rw[ay (by simpa using e1)]
  repeat'(first|(with_reducible first|refine aa _ _ ?_|refine ak ?_|refine ao ?_)|rw[af]|simp only[e1,zY,Int.reduceEq,Int.reduceBEq,Int.reduceBNe,Nat.reduceSub,Nat.reduceEqDiff,Nat.reduceAdd,Nat.reduceMul,Nat.reduceLeDiff,Nat.reduceLT,Nat.reduceBEq,reduceCtorEq]|((first|((try refine aD ?_);apply aE)|(apply aG;intro _));(solve|exact(h1)|(refine ae.le (h1) ?_;exact zM)|fail);try case hn=>rfl)|refine aj ?_|refine ag (λ hb=> ?_) (λ hb=> ?_)|(refine And.intro ?_ ?_;exact zI)|refine And.intro (λ hg=> ?_) (λ hg=> ?_)|exact zC|fail)
  show(aN _ _/\aN _ _/\aN _ _/\aN _ _/\True)/\aN _ _/\aN _ _/\True;simp[aN, -List.length_flatMap,en]
abbrev tx:cG:=⟨0,0,gG⟩
def m7 (bs:List Int) (p:Int):cG×Int×Int:=
 if(bx bs p).2.2≠0 then(tx,0,(bx bs p).2.2)else
 let s:=cD bs (bx bs p).2.1
 if s.2.2≠0 then(tx,0,s.2.2)else
 let r:=jz bs s.2.1
 if r.2.2≠0 then(tx,0,r.2.2)else
 if dQ ⟨(bx bs p).1,s.1,r.1⟩=false then(tx,0,4)else(⟨(bx bs p).1,s.1,r.1⟩,r.2.1,0)
abbrev NC (m:cG):RF:= .agg (m.enc.map RO.d)
theorem xo {bs:List Int}:∀{n:Nat} {p:Int} {acc:List bt},0≤p/\p≤bs.length->0≤(fK bs n p acc).2.1/\(fK bs n p acc).2.1≤bs.length
 |0,p,acc,h=>h
 |n+1,p,acc,h=>by
  rw[fK];split
  .simp only;omega
  .split
   .simp only;omega
   .exact xo oh
theorem IK {bs:List Int} (h:fF bs) {p:Int}:(0≤(jz bs p).2.1/\(jz bs p).2.1≤bs.length)/\qg (jz bs p).1:=by
 have hl:=h.l;have h0:(0≤((gG,(0:Int),(0:Int)):cB×Int×Int).2.1/\((gG,(0:Int),(0:Int)):cB×Int×Int).2.1≤bs.length)/\qg gG:=⟨by simp only;omega,by simp,by simp⟩;unfold jz;simp only;split
 .exact h0
 split
 .exact h0
 split
 .exact h0
 split
 .exact h0
 split
 .exact h0
 rename_i h5;split
 .exact h0
 split
 .exact h0
 .have hgk:=uG (bs:=bs) (n:=(bx bs (bx bs (cD bs (bx bs p).2.1).2.1).2.1).1.toNat) (p:=(bx bs (bx bs (cD bs (bx bs p).2.1).2.1).2.1).2.1) (acc:=[]) (by simp);simp only[iq]at hgk;exact⟨xo mO,by simp only;omega,λ g hg=>by have:=hgk.2 g hg;omega⟩
theorem IL (bs:List Int) (p:Int) (h:fF bs) (hp:i64 p):
  ae prog 62 [.f (bE bs.length (aI bs)), .f (ai p)] (λ r o=>r=[NC (m7 bs p).1,ri (m7 bs p).2.1,ri (m7 bs p).2.2]/\o=[]):=by
 refine ae.nil ?_;refine aR aO mixed (T:=Ty) (n:=52) func62 (c:=f62.body.getD .skip) rfl results62 ntmps62 call62 ?_;simp only[f62,Option.getD];have h1:=mY bs p h hp;have h2:=qa bs (bx bs p).2.1 h (jB h.l mO);have h3:=Jb bs (cD bs (bx bs p).2.1).2.1 h (jB h.l oh);have hf:=(IK h (p:=(cD bs (bx bs p).2.1).2.1)).2;unfold m7;simp only;obtain⟨b,hb⟩:∃b,b=bx bs p:=⟨_,rfl⟩;rw[←hb]at h1 h2 h3 hf⊢;obtain⟨s,hs⟩:∃s,s=cD bs b.2.1:=⟨_,rfl⟩;rw[←hs]at h2 h3 hf⊢;obtain⟨a,ha⟩:∃a,a=jz bs s.2.1:=⟨_,rfl⟩;rw[←ha]at h3 hf⊢;have h4:=ua ⟨b.1,s.1,a.1⟩ hf;cases e1:(b.2.2 !=0)
 .rw[ar (by simpa using e1)];cases e2:(s.2.2 !=0)
  .rw[ar (by simpa using e2)];cases e3:(a.2.2 !=0)
   .rw[ar (by simpa using e3)];cases e7:dQ ⟨b.1,s.1,a.1⟩
    .rw[e7]at h4;rw[ay rfl]
     repeat'(first|(with_reducible first|refine aa _ _ ?_|refine ak ?_|refine ao ?_)|rw[af]|simp only[e1,e2,e3,zY,Int.reduceEq,Int.reduceBEq,Int.reduceBNe,Nat.reduceSub,Nat.reduceEqDiff,Nat.reduceAdd,Nat.reduceMul,Nat.reduceLeDiff,Nat.reduceLT,Nat.reduceBEq,reduceCtorEq]|((first|((try refine aD ?_);apply aE)|(apply aG;intro _));(solve|exact(h1)|exact(h2)|exact(h3)|exact(h4)|(refine ae.le (h1) ?_;exact zM)|(refine ae.le (h2) ?_;exact zM)|(refine ae.le (h3) ?_;exact zM)|(refine ae.le (h4) ?_;exact zM)|fail);try case hn=>rfl)|refine aj ?_|refine ag (λ hb=> ?_) (λ hb=> ?_)|(refine And.intro ?_ ?_;exact zI)|refine And.intro (λ hg=> ?_) (λ hg=> ?_)|exact zC|fail)
     show(aN _ _/\aN _ _/\aN _ _/\aN _ _/\aN _ _/\aN _ _/\True)/\aN _ _/\aN _ _/\True;simp[aN]
    .rw[e7]at h4;rw[ar (by simp)]
     repeat'(first|(with_reducible first|refine aa _ _ ?_|refine ak ?_|refine ao ?_)|rw[af]|simp only[e1,e2,e3,zY,Int.reduceEq,Int.reduceBEq,Int.reduceBNe,Nat.reduceSub,Nat.reduceEqDiff,Nat.reduceAdd,Nat.reduceMul,Nat.reduceLeDiff,Nat.reduceLT,Nat.reduceBEq,reduceCtorEq]|((first|((try refine aD ?_);apply aE)|(apply aG;intro _));(solve|exact(h1)|exact(h2)|exact(h3)|exact(h4)|(refine ae.le (h1) ?_;exact zM)|(refine ae.le (h2) ?_;exact zM)|(refine ae.le (h3) ?_;exact zM)|(refine ae.le (h4) ?_;exact zM)|fail);try case hn=>rfl)|refine aj ?_|refine ag (λ hb=> ?_) (λ hb=> ?_)|(refine And.intro ?_ ?_;exact zI)|refine And.intro (λ hg=> ?_) (λ hg=> ?_)|exact zC|fail)
     show(aN _ _/\aN _ _/\aN _ _/\aN _ _/\aN _ _/\aN _ _/\True)/\aN _ _/\aN _ _/\True;simp[aN]
   .rw[ay (by simpa using e3)]
    repeat'(first|(with_reducible first|refine aa _ _ ?_|refine ak ?_|refine ao ?_)|rw[af]|simp only[e1,e2,e3,zY,Int.reduceEq,Int.reduceBEq,Int.reduceBNe,Nat.reduceSub,Nat.reduceEqDiff,Nat.reduceAdd,Nat.reduceMul,Nat.reduceLeDiff,Nat.reduceLT,Nat.reduceBEq,reduceCtorEq]|((first|((try refine aD ?_);apply aE)|(apply aG;intro _));(solve|exact(h1)|exact(h2)|exact(h3)|(refine ae.le (h1) ?_;exact zM)|(refine ae.le (h2) ?_;exact zM)|(refine ae.le (h3) ?_;exact zM)|fail);try case hn=>rfl)|refine aj ?_|refine ag (λ hb=> ?_) (λ hb=> ?_)|(refine And.intro ?_ ?_;exact zI)|refine And.intro (λ hg=> ?_) (λ hg=> ?_)|exact zC|fail)
    show(aN _ _/\aN _ _/\aN _ _/\aN _ _/\aN _ _/\aN _ _/\True)/\aN _ _/\aN _ _/\True;simp[aN]
  .rw[ay (by simpa using e2)]
   repeat'(first|(with_reducible first|refine aa _ _ ?_|refine ak ?_|refine ao ?_)|rw[af]|simp only[e1,e2,zY,Int.reduceEq,Int.reduceBEq,Int.reduceBNe,Nat.reduceSub,Nat.reduceEqDiff,Nat.reduceAdd,Nat.reduceMul,Nat.reduceLeDiff,Nat.reduceLT,Nat.reduceBEq,reduceCtorEq]|((first|((try refine aD ?_);apply aE)|(apply aG;intro _));(solve|exact(h1)|exact(h2)|(refine ae.le (h1) ?_;exact zM)|(refine ae.le (h2) ?_;exact zM)|fail);try case hn=>rfl)|refine aj ?_|refine ag (λ hb=> ?_) (λ hb=> ?_)|(refine And.intro ?_ ?_;exact zI)|refine And.intro (λ hg=> ?_) (λ hg=> ?_)|exact zC|fail)
   show(aN _ _/\aN _ _/\aN _ _/\aN _ _/\aN _ _/\aN _ _/\True)/\aN _ _/\aN _ _/\True;simp[aN]
 .rw[ay (by simpa using e1)]
  repeat'(first|(with_reducible first|refine aa _ _ ?_|refine ak ?_|refine ao ?_)|rw[af]|simp only[e1,zY,Int.reduceEq,Int.reduceBEq,Int.reduceBNe,Nat.reduceSub,Nat.reduceEqDiff,Nat.reduceAdd,Nat.reduceMul,Nat.reduceLeDiff,Nat.reduceLT,Nat.reduceBEq,reduceCtorEq]|((first|((try refine aD ?_);apply aE)|(apply aG;intro _));(solve|exact(h1)|(refine ae.le (h1) ?_;exact zM)|fail);try case hn=>rfl)|refine aj ?_|refine ag (λ hb=> ?_) (λ hb=> ?_)|(refine And.intro ?_ ?_;exact zI)|refine And.intro (λ hg=> ?_) (λ hg=> ?_)|exact zC|fail)
  show(aN _ _/\aN _ _/\aN _ _/\aN _ _/\aN _ _/\aN _ _/\True)/\aN _ _/\aN _ _/\True;simp[aN]
abbrev dn:C:= .d (.v (.slice none 0 0))
abbrev tO (n:Nat):AV:= .one (.d (.v (.func (.func n) #[] #[])))
theorem xZ:ae prog 178 [.f cY, .f cY] (λ r o=>r=[rb true]/\o=[]):=by
 refine aR aO mixed (T:=Ty) (n:=26) func178 (c:=f178.body.getD .skip) rfl results178 ntmps178 call178 ?_;simp only[f178,Option.getD]
 repeat'(first|(with_reducible first|refine aa _ _ ?_|refine ak ?_|refine ao ?_)|rw[af]|simp only[zY,Int.reduceEq,Int.reduceBEq,Int.reduceBNe,Nat.reduceSub,Nat.reduceEqDiff,Nat.reduceAdd,Nat.reduceMul,Nat.reduceLeDiff,Nat.reduceLT,Nat.reduceBEq,reduceCtorEq]|refine aj ?_|refine ag (λ hb=> ?_) (λ hb=> ?_)|(refine And.intro ?_ ?_;exact zI)|refine And.intro (λ hg=> ?_) (λ hg=> ?_)|exact zC|fail)
 refine fJ Ty prog (τ:=Unit) (λ _=>⟨[cY,cY,dd,dd,dd,dd,dd,dd,dd,dd,dd,dd,ai 0,ai 0,dd,dd,dd,dd,dd,dd,dd,dd,dd,dd,dd,dd],[]⟩) (λ _=>True) (λ _=>0) ()
  (Gh.canon [] [] [] zK rfl rfl) trivial ?_
 intro _ _ K hK;have h0:decide ((0:Int)<0)=false:=rfl
 repeat'(first|(with_reducible first|refine aa _ _ ?_|refine ak ?_|refine ao ?_)|rw[af]|simp only[h0,zY,Int.reduceEq,Int.reduceBEq,Int.reduceBNe,Nat.reduceSub,Nat.reduceEqDiff,Nat.reduceAdd,Nat.reduceMul,Nat.reduceLeDiff,Nat.reduceLT,Nat.reduceBEq,reduceCtorEq]|refine aj ?_|refine ag (λ hb=> ?_) (λ hb=> ?_)|(refine And.intro ?_ ?_;exact zI)|refine And.intro (λ hg=> ?_) (λ hg=> ?_)|exact zC|fail)
theorem xX:ae prog 179 [.f cY, .f cY] (λ r o=>r=[rb true]/\o=[]):=by
 refine aR aO mixed (T:=Ty) (n:=26) func179 (c:=f179.body.getD .skip) rfl results179 ntmps179 call179 ?_;simp only[f179,Option.getD]
 repeat'(first|(with_reducible first|refine aa _ _ ?_|refine ak ?_|refine ao ?_)|rw[af]|simp only[zY,Int.reduceEq,Int.reduceBEq,Int.reduceBNe,Nat.reduceSub,Nat.reduceEqDiff,Nat.reduceAdd,Nat.reduceMul,Nat.reduceLeDiff,Nat.reduceLT,Nat.reduceBEq,reduceCtorEq]|refine aj ?_|refine ag (λ hb=> ?_) (λ hb=> ?_)|(refine And.intro ?_ ?_;exact zI)|refine And.intro (λ hg=> ?_) (λ hg=> ?_)|exact zC|fail)
 refine fJ Ty prog (τ:=Unit) (λ _=>⟨[cY,cY,dd,dd,dd,dd,dd,dd,dd,dd,dd,dd,ai 0,ai 0,dd,dd,dd,dd,dd,dd,dd,dd,dd,dd,dd,dd],[]⟩) (λ _=>True) (λ _=>0) ()
  (Gh.canon [] [] [] zK rfl rfl) trivial ?_
 intro _ _ K hK;have h0:decide ((0:Int)<0)=false:=rfl
 repeat'(first|(with_reducible first|refine aa _ _ ?_|refine ak ?_|refine ao ?_)|rw[af]|simp only[h0,zY,Int.reduceEq,Int.reduceBEq,Int.reduceBNe,Nat.reduceSub,Nat.reduceEqDiff,Nat.reduceAdd,Nat.reduceMul,Nat.reduceLeDiff,Nat.reduceLT,Nat.reduceBEq,reduceCtorEq]|refine aj ?_|refine ag (λ hb=> ?_) (λ hb=> ?_)|(refine And.intro ?_ ?_;exact zI)|refine And.intro (λ hg=> ?_) (λ hg=> ?_)|exact zC|fail)
theorem xA (n:Nat):ae prog 180 [.f cY, .f cY, .f (tO n)] (λ r o=>r=[rb true]/\o=[]):=by
 refine aR aO mixed (T:=Ty) (n:=32) func180 (c:=f180.body.getD .skip) rfl results180 ntmps180 call180 ?_;simp only[f180,Option.getD]
 repeat'(first|(with_reducible first|refine aa _ _ ?_|refine ak ?_|refine ao ?_)|rw[af]|simp only[zY,Int.reduceEq,Int.reduceBEq,Int.reduceBNe,Nat.reduceSub,Nat.reduceEqDiff,Nat.reduceAdd,Nat.reduceMul,Nat.reduceLeDiff,Nat.reduceLT,Nat.reduceBEq,reduceCtorEq]|refine aj ?_|refine ag (λ hb=> ?_) (λ hb=> ?_)|(refine And.intro ?_ ?_;exact zI)|refine And.intro (λ hg=> ?_) (λ hg=> ?_)|exact zC|fail)
 refine fJ Ty prog (τ:=Unit) (λ _=>⟨[dd,cY,tO n,dd,dd,dd,dd,dd,dd,dd,dd,dd,dd,dd,dd,cY,ai 0,ai 0,dd,dd,dd,dd,dd,dd,dd,dd,dd,dd,dd,dd,dd,dd],[]⟩) (λ _=>True) (λ _=>0) ()
  (Gh.canon [] [] [] zK rfl rfl) trivial ?_
 intro _ _ K hK;have h0:decide ((0:Int)<0)=false:=rfl
 repeat'(first|(with_reducible first|refine aa _ _ ?_|refine ak ?_|refine ao ?_)|rw[af]|simp only[h0,zY,Int.reduceEq,Int.reduceBEq,Int.reduceBNe,Nat.reduceSub,Nat.reduceEqDiff,Nat.reduceAdd,Nat.reduceMul,Nat.reduceLeDiff,Nat.reduceLT,Nat.reduceBEq,reduceCtorEq]|refine aj ?_|refine ag (λ hb=> ?_) (λ hb=> ?_)|(refine And.intro ?_ ?_;exact zI)|refine And.intro (λ hg=> ?_) (λ hg=> ?_)|exact zC|fail)
theorem xH (n:Nat):ae prog 183 [.f cY, .f cY, .f (tO n)] (λ r o=>r=[rb true]/\o=[]):=by
 refine aR aO mixed (T:=Ty) (n:=32) func183 (c:=f183.body.getD .skip) rfl results183 ntmps183 call183 ?_;simp only[f183,Option.getD]
 repeat'(first|(with_reducible first|refine aa _ _ ?_|refine ak ?_|refine ao ?_)|rw[af]|simp only[zY,Int.reduceEq,Int.reduceBEq,Int.reduceBNe,Nat.reduceSub,Nat.reduceEqDiff,Nat.reduceAdd,Nat.reduceMul,Nat.reduceLeDiff,Nat.reduceLT,Nat.reduceBEq,reduceCtorEq]|refine aj ?_|refine ag (λ hb=> ?_) (λ hb=> ?_)|(refine And.intro ?_ ?_;exact zI)|refine And.intro (λ hg=> ?_) (λ hg=> ?_)|exact zC|fail)
 refine fJ Ty prog (τ:=Unit) (λ _=>⟨[dd,cY,tO n,dd,dd,dd,dd,dd,dd,dd,dd,dd,dd,dd,dd,cY,ai 0,ai 0,dd,dd,dd,dd,dd,dd,dd,dd,dd,dd,dd,dd,dd,dd],[]⟩) (λ _=>True) (λ _=>0) ()
  (Gh.canon [] [] [] zK rfl rfl) trivial ?_
 intro _ _ K hK;have h0:decide ((0:Int)<0)=false:=rfl
 repeat'(first|(with_reducible first|refine aa _ _ ?_|refine ak ?_|refine ao ?_)|rw[af]|simp only[h0,zY,Int.reduceEq,Int.reduceBEq,Int.reduceBNe,Nat.reduceSub,Nat.reduceEqDiff,Nat.reduceAdd,Nat.reduceMul,Nat.reduceLeDiff,Nat.reduceLT,Nat.reduceBEq,reduceCtorEq]|refine aj ?_|refine ag (λ hb=> ?_) (λ hb=> ?_)|(refine And.intro ?_ ?_;exact zI)|refine And.intro (λ hg=> ?_) (λ hg=> ?_)|exact zC|fail)
theorem Aa:ae prog 144 [.f (.agg [db false,di 0,di 0,di 0,di 0,dn]), .f (.agg [db false,di 0,di 0,di 0,di 0,dn])] (λ r o=>r=[rb true]/\o=[]):=by
 refine aR aO mixed (T:=Ty) (n:=38) func144 (c:=f144.body.getD .skip) rfl results144 ntmps144 call144 ?_;simp only[f144,Option.getD]
 repeat'(first|(with_reducible first|refine aa _ _ ?_|refine ak ?_|refine ao ?_)|rw[af]|simp only[zY,Int.reduceEq,Int.reduceBEq,Int.reduceBNe,Nat.reduceSub,Nat.reduceEqDiff,Nat.reduceAdd,Nat.reduceMul,Nat.reduceLeDiff,Nat.reduceLT,Nat.reduceBEq,reduceCtorEq]|((first|((try refine aD ?_);apply aE)|(apply aG;intro _));(solve|exact(xZ)|(refine ae.le (xZ) ?_;exact zM)|fail);try case hn=>rfl)|refine aj ?_|refine ag (λ hb=> ?_) (λ hb=> ?_)|(refine And.intro ?_ ?_;exact zI)|refine And.intro (λ hg=> ?_) (λ hg=> ?_)|exact zC|fail)
theorem xj:ae prog 145 [.f (.agg [di 0,di 0,di 0,dn,dn,dn]), .f (.agg [di 0,di 0,di 0,dn,dn,dn])] (λ r o=>r=[rb true]/\o=[]):=by
 refine aR aO mixed (T:=Ty) (n:=44) func145 (c:=f145.body.getD .skip) rfl results145 ntmps145 call145 ?_;simp only[f145,Option.getD]
 repeat'(first|(with_reducible first|refine aa _ _ ?_|refine ak ?_|refine ao ?_)|rw[af]|simp only[zY,Int.reduceEq,Int.reduceBEq,Int.reduceBNe,Nat.reduceSub,Nat.reduceEqDiff,Nat.reduceAdd,Nat.reduceMul,Nat.reduceLeDiff,Nat.reduceLT,Nat.reduceBEq,reduceCtorEq]|((first|((try refine aD ?_);apply aE)|(apply aG;intro _));(solve|exact(xX)|exact(xA _)|exact(xH _)|(refine ae.le (xX) ?_;exact zM)|(refine ae.le (xA _) ?_;exact zM)|(refine ae.le (xH _) ?_;exact zM)|fail);try case hn=>rfl)|refine aj ?_|refine ag (λ hb=> ?_) (λ hb=> ?_)|(refine And.intro ?_ ?_;exact zI)|refine And.intro (λ hg=> ?_) (λ hg=> ?_)|exact zC|fail)
abbrev wT (k:Int) (r:br):List C:=[di k,di 0,di 0,di 0,di r.bh,di r.seq,di r.kind,di r.aF,dS r.name,di 0,di 0, .d (.v (.int .i64 0)),di 0,di 0,dn,
 db false,di 0,di 0,di 0,di 0,dn,di 0,di 0,di 0,di 0,di 0,dn,di 0,di 0,di 0,di 0,di 0,di 0,dn,dn,dn]
theorem sr (k:Int):ae prog 101 [.f (.agg (wT k ⟨0,0,0,0, .empty⟩))] (λ r o=>r=[rb true]/\o=[]):=by
 refine aR aO mixed (T:=Ty) (n:=116) func101 (c:=f101.body.getD .skip) rfl results101 ntmps101 call101 ?_;simp only[f101,Option.getD]
 repeat'(first|(with_reducible first|refine aa _ _ ?_|refine ak ?_|refine ao ?_)|rw[af]|simp only[zY,Int.reduceEq,Int.reduceBEq,Int.reduceBNe,Nat.reduceSub,Nat.reduceEqDiff,Nat.reduceAdd,Nat.reduceMul,Nat.reduceLeDiff,Nat.reduceLT,Nat.reduceBEq,reduceCtorEq]|((first|((try refine aD ?_);apply aE)|(apply aG;intro _));(solve|exact(Aa)|exact(xj)|(refine ae.le (Aa) ?_;exact zM)|(refine ae.le (xj) ?_;exact zM)|fail);try case hn=>rfl)|refine aj ?_|refine ag (λ hb=> ?_) (λ hb=> ?_)|(refine And.intro ?_ ?_;exact zI)|refine And.intro (λ hg=> ?_) (λ hg=> ?_)|exact zC|fail)
theorem JG (r:br) (hr:r.ok) (h:br.may r=true):ae prog 68 [.f (.agg (wT 1 r))] (λ x o=>x=[rb true]/\o=[]):=by
 refine aR aO mixed (T:=Ty) (n:=91) func68 (c:=f68.body.getD .skip) rfl results68 ntmps68 call68 ?_;simp only[f68,Option.getD];have hmy:=uT r hr;rw[h]at hmy
 repeat'(first|(with_reducible first|refine aa _ _ ?_|refine ak ?_|refine ao ?_)|rw[af]|simp only[zY,Int.reduceEq,Int.reduceBEq,Int.reduceBNe,Nat.reduceSub,Nat.reduceEqDiff,Nat.reduceAdd,Nat.reduceMul,Nat.reduceLeDiff,Nat.reduceLT,Nat.reduceBEq,reduceCtorEq]|((first|((try refine aD ?_);apply aE)|(apply aG;intro _));(solve|exact(hmy)|exact(sr 1)|(refine ae.le (hmy) ?_;exact zM)|(refine ae.le (sr 1) ?_;exact zM)|fail);try case hn=>rfl)|refine aj ?_|refine ag (λ hb=> ?_) (λ hb=> ?_)|(refine And.intro ?_ ?_;exact zI)|refine And.intro (λ hg=> ?_) (λ hg=> ?_)|exact zC|fail)
theorem KS (r:br):(jJ r).length=19+r.name.size:=by unfold jJ;rw[b6,b6,iI,Ah];simp;omega
theorem Jy {r:br} (h:br.may r=true):r.name.size≤12:=by unfold br.may at h;simp only[cu]at h;exact(mN h.2).2.2.2.2
def iN (r:br):List D:=uD 1::jJ r
theorem uE (r:br) (hr:r.ok) (h:br.may r=true):ae prog 41 [.f (.agg (wT 1 r))] (λ x o=>x=[.one (.own 1 (iN r).length (iN r) false),ri 0]/\o=[]):=by
 refine aR aO mixed (T:=Ty) (n:=87) func41 (c:=f41.body.getD .skip) rfl results41 ntmps41 call41 ?_;simp only[f41,Option.getD];have hmy:=JG r hr h;have hpt:=Kn r hr h;have hw:IntKind.u8.wrap 1=1:=hC (by decide) (by decide);have hlr:=KS r;have hn:=Jy h;have hle:(1+(jJ r).length≤2^47)=True:=eN (by omega)
 repeat'(first|(with_reducible first|refine aa _ _ ?_|refine ak ?_|refine ao ?_)|rw[af]|simp only[hw,hle,ml,zY,Int.reduceEq,Int.reduceBEq,Int.reduceBNe,Nat.reduceSub,Nat.reduceEqDiff,Nat.reduceAdd,Nat.reduceMul,Nat.reduceLeDiff,Nat.reduceLT,Nat.reduceBEq,reduceCtorEq]|((first|((try refine aD ?_);apply aE)|(apply aG;intro _));(solve|exact(hmy)|exact(hpt)|(refine ae.le (hmy) ?_;exact zM)|(refine ae.le (hpt) ?_;exact zM)|fail);try case hn=>rfl)|refine aj ?_|refine ag (λ hb=> ?_) (λ hb=> ?_)|(refine And.intro ?_ ?_;exact zI)|refine And.intro (λ hg=> ?_) (λ hg=> ?_)|exact zC|fail)
 rw[show(iN r).length=1+(jJ r).length from by unfold iN;rw[de];omega];rfl
end Go.Proofs.YtiegkabcgokhkaaGreat
