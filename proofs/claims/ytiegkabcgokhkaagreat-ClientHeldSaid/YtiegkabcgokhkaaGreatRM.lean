import Derived.Test.YtiegkabcgokhkaaGreatRJ
set_option maxHeartbeats 8000000
namespace Go.Proofs.YtiegkabcgokhkaaGreat
open Go.Pk Tryz
set_option maxRecDepth 100000
set_option linter.unusedSimpArgs false
set_option linter.unusedVariables false
theorem uC {r:cB} (h:dR r=true):(dz r).length≤95:=by
 have hgr:=mK h;have hf:=(iY h).2.2.2.1;have:=rr (l:=r.held) (k:=12) λ g hg=>(hgr g hg).1
 have e:(dz r).length=11+(fb r.held).length:=by simp[dz,ef];omega
 omega
theorem rp {m:cG} (h:dQ m=true):(dk m).length≤104:=by
 have:=uC (lX h).2.2;have e:(dk m).length=9+(dz m.cf).length:=by simp[dk,ef];omega
 omega
theorem ug {m:cG} (h:dQ m=true):qg m.cf:=by have hgr:=mK (lX h).2.2;have hf:=(iY (lX h).2.2).2.2.2.1;exact⟨by omega,λ g hg=>by have:=(hgr g hg).1;omega⟩
theorem IJ (m:cG) (h:dQ m=true):ae prog 70 [.f (.agg m.aJ)] (λ x o=>x=[.one (.own 1 (dk m).length (aI (dk m)) false),ri 0]/\o=[]):=by
 refine aR aO mixed (T:=Ty) (n:=31) func70 (c:=f70.body.getD .skip) rfl results70 ntmps70 call70 ?_;simp only[f70,Option.getD];obtain⟨f1,f2,f3⟩:=lX h;have hmy:=ua m (ug h);rw[h]at hmy;have hpn:=pJ m.seq (by omega);have hpr:=I1 m.cf f3;have hrl:=uC f3;have w1:IntKind.u8.wrap m.bh=m.bh:=hC (by omega) (by omega);have hcc:ae prog 105 [.f (al 3 [.sl 1 (aI [m.bh]), .sl 8 (aI (b7 m.seq)), .sl (dz m.cf).length (aI (dz m.cf))])] (λ x o=>x=[.one (.own 1 (dk m).length (aI (dk m)) false)]/\o=[]):=by
  have hc:=rL [aI [m.bh],aI (b7 m.seq),aI (dz m.cf)] (by simp) (λ l hl=>by
   simp only[cL,kY,kS]at hl;rcases hl with rfl|rfl|rfl
   .simp
   .rw[iI];decide
   .rw[cF];omega)
  rw[show [aI [m.bh],aI (b7 m.seq),aI (dz m.cf)].flatten=aI (dk m) from by simp[dk,aI]]at hc;simp only[my,cJ,ff,cF,de,iq,ef]at hc;exact hc
 have t1:(aI (b7 m.seq)).take 8=aI (b7 m.seq):=dX (by rw[iI];decide);have t2:(aI (dz m.cf)).take (dz m.cf).length=aI (dz m.cf):=dX (by rw[cF];exact Nat.le_refl _)
 repeat'(first|(with_reducible first|refine aa _ _ ?_|refine ak ?_|refine ao ?_)|rw[af]|simp only[t1,t2,w1,zY,Int.reduceEq,Int.reduceBEq,Int.reduceBNe,Nat.reduceSub,Nat.reduceEqDiff,Nat.reduceAdd,Nat.reduceMul,Nat.reduceLeDiff,Nat.reduceLT,Nat.reduceBEq,reduceCtorEq]|((first|((try refine aD ?_);apply aE)|(apply aG;intro _));(solve|exact(hmy)|exact(hpn)|exact(hpr)|exact(hcc)|(refine ae.le (hmy) ?_;exact zM)|(refine ae.le (hpn) ?_;exact zM)|(refine ae.le (hpr) ?_;exact zM)|(refine ae.le (hcc) ?_;exact zM)|fail);try case hn=>rfl)|refine aj ?_|refine ag (λ hb=> ?_) (λ hb=> ?_)|(refine And.intro ?_ ?_;exact zI)|refine And.intro (λ hg=> ?_) (λ hg=> ?_)|exact zC|fail)
abbrev tR (m:cG):List C:=[di 2,di 0,di 0,di 0,di 0,di 0,di 0,di 0,dS .empty,di m.bh,di m.seq,di m.cf.code,di m.cf.aF,di m.cf.ahead, .aJ m.cf.held.length (ch m.cf.held),
 db false,di 0,di 0,di 0,di 0,dn,di 0,di 0,di 0,di 0,di 0,dn,di 0,di 0,di 0,di 0,di 0,di 0,dn,dn,dn]
abbrev po (m:cG):List D:=[iD 2,iD 0,iD 0,iD 0,iD 0,iD 0,iD 0,iD 0,sD .empty,iD m.bh,iD m.seq,iD m.cf.code,iD m.cf.aF,iD m.cf.ahead, .sl m.cf.held.length (ch m.cf.held),
 bD false,iD 0,iD 0,iD 0,iD 0, .v (.slice none 0 0),iD 0,iD 0,iD 0,iD 0,iD 0, .v (.slice none 0 0),iD 0,iD 0,iD 0,iD 0,iD 0,iD 0, .v (.slice none 0 0), .v (.slice none 0 0), .v (.slice none 0 0)]
abbrev tH (r:br):List D:=[iD 1,iD 0,iD 0,iD 0,iD r.bh,iD r.seq,iD r.kind,iD r.aF,sD r.name,iD 0,iD 0,iD 0,iD 0,iD 0, .v (.slice none 0 0),
 bD false,iD 0,iD 0,iD 0,iD 0, .v (.slice none 0 0),iD 0,iD 0,iD 0,iD 0,iD 0, .v (.slice none 0 0),iD 0,iD 0,iD 0,iD 0,iD 0,iD 0, .v (.slice none 0 0), .v (.slice none 0 0), .v (.slice none 0 0)]
theorem I6 (m:cG) (h:dQ m=true):ae prog 68 [.f (.agg (tR m))] (λ x o=>x=[rb true]/\o=[]):=by
 refine aR aO mixed (T:=Ty) (n:=91) func68 (c:=f68.body.getD .skip) rfl results68 ntmps68 call68 ?_;simp only[f68,Option.getD];have hmy:=ua m (ug h);rw[h]at hmy
 repeat'(first|(with_reducible first|refine aa _ _ ?_|refine ak ?_|refine ao ?_)|rw[af]|simp only[zY,Int.reduceEq,Int.reduceBEq,Int.reduceBNe,Nat.reduceSub,Nat.reduceEqDiff,Nat.reduceAdd,Nat.reduceMul,Nat.reduceLeDiff,Nat.reduceLT,Nat.reduceBEq,reduceCtorEq]|((first|((try refine aD ?_);apply aE)|(apply aG;intro _));(solve|exact(hmy)|exact(sr 2)|(refine ae.le (hmy) ?_;exact zM)|(refine ae.le (sr 2) ?_;exact zM)|fail);try case hn=>rfl)|refine aj ?_|refine ag (λ hb=> ?_) (λ hb=> ?_)|(refine And.intro ?_ ?_;exact zI)|refine And.intro (λ hg=> ?_) (λ hg=> ?_)|exact zC|fail)
theorem Ja (m:cG) (h:dQ m=true):ae prog 41 [.f (.agg (tR m))] (λ x o=>x=[.one (.own 1 (dW m).length (aI (dW m)) false),ri 0]/\o=[]):=by
 refine aR aO mixed (T:=Ty) (n:=87) func41 (c:=f41.body.getD .skip) rfl results41 ntmps41 call41 ?_;simp only[f41,Option.getD];have hmy:=I6 m h;have hpt:=IJ m h;have hw:IntKind.u8.wrap 2=2:=hC (by decide) (by decide);have hn:=rp h;have hle:(1+(dk m).length≤2^47)=True:=eN (by omega);have t2:(aI (dk m)).take (dk m).length=aI (dk m):=dX (by rw[cF];exact Nat.le_refl _)
 repeat'(first|(with_reducible first|refine aa _ _ ?_|refine ak ?_|refine ao ?_)|rw[af]|simp only[hw,hle,t2,cF,zY,Int.reduceEq,Int.reduceBEq,Int.reduceBNe,Nat.reduceSub,Nat.reduceEqDiff,Nat.reduceAdd,Nat.reduceMul,Nat.reduceLeDiff,Nat.reduceLT,Nat.reduceBEq,reduceCtorEq]|((first|((try refine aD ?_);apply aE)|(apply aG;intro _));(solve|exact(hmy)|exact(hpt)|(refine ae.le (hmy) ?_;exact zM)|(refine ae.le (hpt) ?_;exact zM)|fail);try case hn=>rfl)|refine aj ?_|refine ag (λ hb=> ?_) (λ hb=> ?_)|(refine And.intro ?_ ?_;exact zI)|refine And.intro (λ hg=> ?_) (λ hg=> ?_)|exact zC|fail)
 rw[show(dW m).length=1+(dk m).length from by unfold dW;rw[b6];rfl];rfl
theorem Ak (n:Nat) (bs:List Int) (hn:n=bs.length):ae prog 42 [.f (al n (aI bs)), .f (bE n (aI bs))] (λ x o=>x=[rb true]/\o=[]):=by
 refine aR aO mixed (T:=Ty) (n:=10) func42 (c:=f42.body.getD .skip) rfl results42 ntmps42 call42 ?_;simp only[f42,Option.getD];have t2:(aI bs).take n=aI bs:=dX (by rw[cF,hn];exact Nat.le_refl _);have hb:=tY bs
 repeat'(first|(with_reducible first|refine aa _ _ ?_|refine ak ?_|refine ao ?_)|rw[af]|simp only[t2,hb,zY,Int.reduceEq,Int.reduceBEq,Int.reduceBNe,Nat.reduceSub,Nat.reduceEqDiff,Nat.reduceAdd,Nat.reduceMul,Nat.reduceLeDiff,Nat.reduceLT,Nat.reduceBEq,reduceCtorEq]|refine aj ?_|refine ag (λ hb=> ?_) (λ hb=> ?_)|(refine And.intro ?_ ?_;exact zI)|refine And.intro (λ hg=> ?_) (λ hg=> ?_)|exact zC|fail)
theorem Jj (bs:List Int) (m:cG) (h:fF bs) (hm:dQ m=true) (hb:bs=dW m):
  ae prog 40 [.obj (jo bs.length (aI bs) 0)] (λ r o=>r=[.agg ((po m).map RO.d)]/\o=[jo bs.length (aI bs) (bs.length:Nat)]):=by
 refine aR aO mixed (T:=Ty) (n:=110) func40 (c:=f40.body.getD .skip) rfl results40 ntmps40 call40 ?_;simp only[f40,Option.getD];have h0:bs.drop 0=[2]++(dk m++[]):=by rw[hb,eU];rfl
 have e0:bx bs 0=(2,1,0):=l9 h0;have h1:=AG bs 0 h ⟨by decide,by decide⟩ (by rw[e0]);rw[e0]at h1;have e1:m7 bs 1=(m,((bs.length:Nat):Int),0):=by have:=Ju (iH h0) hm;rw[show 0+[(2:Int)].length+(dk m).length=bs.length from by rw[hb];simp[dW];omega]at this;exact this
 have h2:=IL bs 1 h ⟨by decide,by decide⟩;rw[e1]at h2
 repeat'(first|(with_reducible first|refine aa _ _ ?_|refine ak ?_|refine ao ?_)|rw[af]|simp only[zY,Int.reduceEq,Int.reduceBEq,Int.reduceBNe,Nat.reduceSub,Nat.reduceEqDiff,Nat.reduceAdd,Nat.reduceMul,Nat.reduceLeDiff,Nat.reduceLT,Nat.reduceBEq,reduceCtorEq]|refine aj ?_|refine ag (λ hb=> ?_) (λ hb=> ?_)|(refine And.intro ?_ ?_;exact zI)|refine And.intro (λ hg=> ?_) (λ hg=> ?_)|exact zC|fail)
 refine jc (mv:= ?mv1) (aJ:= ?le1) 0 ?ha1 (h1) ?hb1 ?hc1
 case ha1=>(try simp only[zB,du,Nat.reduceSub,Nat.reduceEqDiff,Nat.reduceAdd,Nat.reduceMul,Nat.reduceLeDiff,Nat.reduceLT,Nat.reduceBEq,reduceCtorEq]);exact rfl
 case hb1=>(try simp only[zB,bA,Nat.reduceSub,Nat.reduceEqDiff,Nat.reduceAdd,Nat.reduceMul,Nat.reduceLeDiff,Nat.reduceLT,Nat.reduceBEq,reduceCtorEq]);repeat'(first|rfl|trivial|omega|with_reducible refine And.intro ?_ ?_)
 show aP _ _ _ _ _ _ _ _
 repeat'(first|(with_reducible first|refine aa _ _ ?_|refine ak ?_|refine ao ?_)|rw[af]|simp only[zY,Int.reduceEq,Int.reduceBEq,Int.reduceBNe,Nat.reduceSub,Nat.reduceEqDiff,Nat.reduceAdd,Nat.reduceMul,Nat.reduceLeDiff,Nat.reduceLT,Nat.reduceBEq,reduceCtorEq]|((first|((try refine aD ?_);apply aE)|(apply aG;intro _));(solve|exact(h2)|exact(pa)|(refine ae.le (h2) ?_;exact zM)|(refine ae.le (pa) ?_;exact zM)|fail);try case hn=>rfl)|refine aj ?_|refine ag (λ hb=> ?_) (λ hb=> ?_)|(refine And.intro ?_ ?_;exact zI)|refine And.intro (λ hg=> ?_) (λ hg=> ?_)|exact zC|fail)
theorem JE (bs:List Int) (m:br) (h:fF bs) (hm:br.may m=true) (hb:bs=jC m):
  ae prog 40 [.obj (jo bs.length (aI bs) 0)] (λ r o=>r=[.agg ((tH m).map RO.d)]/\o=[jo bs.length (aI bs) (bs.length:Nat)]):=by
 refine aR aO mixed (T:=Ty) (n:=110) func40 (c:=f40.body.getD .skip) rfl results40 ntmps40 call40 ?_;simp only[f40,Option.getD];have h0:bs.drop 0=[1]++(jS m++[]):=by rw[hb,eU];rfl
 have e0:bx bs 0=(1,1,0):=l9 h0;have h1:=AG bs 0 h ⟨by decide,by decide⟩ (by rw[e0]);rw[e0]at h1;have e1:nT bs 1=(m,((bs.length:Nat):Int),0):=by have:=L5 (iH h0) hm;rw[show 0+[(1:Int)].length+(jS m).length=bs.length from by rw[hb];simp[jC];omega]at this;exact this
 have h2:=Kh bs 1 h ⟨by decide,by decide⟩;rw[e1]at h2
 repeat'(first|(with_reducible first|refine aa _ _ ?_|refine ak ?_|refine ao ?_)|rw[af]|simp only[zY,Int.reduceEq,Int.reduceBEq,Int.reduceBNe,Nat.reduceSub,Nat.reduceEqDiff,Nat.reduceAdd,Nat.reduceMul,Nat.reduceLeDiff,Nat.reduceLT,Nat.reduceBEq,reduceCtorEq]|refine aj ?_|refine ag (λ hb=> ?_) (λ hb=> ?_)|(refine And.intro ?_ ?_;exact zI)|refine And.intro (λ hg=> ?_) (λ hg=> ?_)|exact zC|fail)
 refine jc (mv:= ?mv2) (aJ:= ?le2) 0 ?ha2 (h1) ?hb2 ?hc2
 case ha2=>(try simp only[zB,du,Nat.reduceSub,Nat.reduceEqDiff,Nat.reduceAdd,Nat.reduceMul,Nat.reduceLeDiff,Nat.reduceLT,Nat.reduceBEq,reduceCtorEq]);exact rfl
 case hb2=>(try simp only[zB,bA,Nat.reduceSub,Nat.reduceEqDiff,Nat.reduceAdd,Nat.reduceMul,Nat.reduceLeDiff,Nat.reduceLT,Nat.reduceBEq,reduceCtorEq]);repeat'(first|rfl|trivial|omega|with_reducible refine And.intro ?_ ?_)
 show aP _ _ _ _ _ _ _ _
 repeat'(first|(with_reducible first|refine aa _ _ ?_|refine ak ?_|refine ao ?_)|rw[af]|simp only[zY,Int.reduceEq,Int.reduceBEq,Int.reduceBNe,Nat.reduceSub,Nat.reduceEqDiff,Nat.reduceAdd,Nat.reduceMul,Nat.reduceLeDiff,Nat.reduceLT,Nat.reduceBEq,reduceCtorEq]|((first|((try refine aD ?_);apply aE)|(apply aG;intro _));(solve|exact(h2)|exact(pa)|(refine ae.le (h2) ?_;exact zM)|(refine ae.le (pa) ?_;exact zM)|fail);try case hn=>rfl)|refine aj ?_|refine ag (λ hb=> ?_) (λ hb=> ?_)|(refine And.intro ?_ ?_;exact zI)|refine And.intro (λ hg=> ?_) (λ hg=> ?_)|exact zC|fail)
theorem zG:oQ prog 39 2:=by
 refine ru aO mixed (T:=Ty) func39 rfl rfl ntmps39 rfl rfl rfl rfl rfl rfl rfl (by decide) (y7:= .tuple #[.agg #[.int .i64 0], .bool false]) (V7:= .eY [.agg [di 0],ab false]) ?_ ?_ (by decide) rfl ?_
 .intro w;simp[Instr.typeAssert,Tryz.underlying106,sB (rC) w]
 .intro cx w r β;simp[aA,aZ,aw,aC,Rd,flat]
 .simp only[List.replicate];simp only[zB,Nat.reduceSub,Nat.reduceEqDiff,Nat.reduceAdd,Nat.reduceMul,Nat.reduceLeDiff,Nat.reduceLT,Nat.reduceBEq,reduceCtorEq]
  repeat'(first|(with_reducible first|refine aa _ _ ?_|refine ak ?_|refine ao ?_)|rw[af]|simp only[zY,Int.reduceEq,Int.reduceBEq,Int.reduceBNe,Nat.reduceSub,Nat.reduceEqDiff,Nat.reduceAdd,Nat.reduceMul,Nat.reduceLeDiff,Nat.reduceLT,Nat.reduceBEq,reduceCtorEq]|refine aj ?_|refine ag (λ hb=> ?_) (λ hb=> ?_)|(refine And.intro ?_ ?_;exact zI)|refine And.intro (λ hg=> ?_) (λ hg=> ?_)|exact zC|fail)
def HW (k:Nat):Nat:=if k=2 then 36 else 1
theorem Br {P:Program} {fc:FuncId} {ks:List Nat} {sz:Nat->Nat} {nw:Value->Nat->List Value}:oJ P fc ks sz nw (λ _=>False):=λ _ _ _ h=>h.elim
theorem KZ {r:cB} (h:dR r=true):∀x∈dz r,bp x:=by
 obtain⟨f1,f2,f3,f4,f5⟩:=iY h;have hg:=mK h;intro x hx;simp only[dz,eE,cL,kY,kS]at hx;rcases hx with rfl|hx|(rfl|rfl)|hx
 .exact⟨by omega,by omega⟩
 .exact ql _ x hx
 .exact⟨by omega,by omega⟩
 .exact⟨by omega,by omega⟩
 .obtain⟨g,g1,g2⟩:=List.mem_flatMap.1 hx;rcases eE.1 g2 with g2|g2
  .exact Bl _ (by have:=(hg g g1).1;omega) x g2
  .exact ql _ x g2
theorem Jv {m:cG} (h:dQ m=true):fF (dW m):=by
 obtain⟨f1,f2,f3⟩:=lX h;refine⟨?_, ?_⟩
 .have:=rp h;rw[dW,b6,gD];omega
 .intro x hx;simp only[dW,dk,eE,cL,kY,kS]at hx;rcases hx with rfl|rfl|hx|hx
  .exact⟨by omega,by omega⟩
  .exact⟨by omega,by omega⟩
  .exact ql _ x hx
  .exact KZ f3 x hx
theorem My {r:br} (h:br.may r=true):fF (jC r):=by
 obtain⟨f1,f2,f3⟩:=ud h;obtain⟨g1,g2,g3,g4,g5⟩:=mN f3;refine⟨?_, ?_⟩
 .rw[jC,jS,jN];simp[ef,lp];omega
 .intro x hx;simp only[jC,jS,jN,eE,cL,kY,kS]at hx;rcases hx with rfl|rfl|hx|rfl|hx|hx
  .exact⟨by omega,by omega⟩
  .exact⟨by omega,by omega⟩
  .exact ql _ x hx
  .exact⟨by omega,by omega⟩
  .exact ql _ x hx
  .exact Bl _ (by omega) x hx
abbrev H5:List C:=[di 0,di 0,di 0,di 0,di 0,di 0,di 0,di 0,dS .empty,di 0,di 0,di 0,di 0,di 0,dn,db false,di 0,di 0,di 0,di 0,dn,di 0,di 0,di 0,di 0,di 0,dn,di 0,di 0,di 0,di 0,di 0,di 0,dn,dn,dn]
theorem Bh (bs:List Int) (m:cG) (hm:dQ m=true) (hb:bs=dW m):
  ae prog 14 [.f (bE bs.length (aI bs))] (λ r o=>r=[.agg ((po m).map RO.d),ri 0]/\o=[]):=by
 have h:fF bs:=hb▸Jv hm;refine kz aO mixed (T:=Ty) func14 rfl results14 ntmps14 call14 call39 (ks:=[2,3]) rfl rfl rfl rfl rfl rfl (by decide) (by decide)
  (xs:=[bE bs.length (aI bs)]) (sz:=HW) (nw:=λ _ _=>[]) zG Br ⟨[bE bs.length (aI bs),dd, .one (.ptr ⟨2,0,0⟩ 0), .one (.ptr ⟨3,0,0⟩ 0),dd,dd,dd,dd,dd,dd,dd,dd,dd,dd,dd,dd,dd,dd,dd,dd,dd,dd,dd,dd,dd,dd,dd,dd,dd,dd,dd,dd,dd,dd,dd,dd,dd,dd,dd],[(2,{next:=1,l:=[some {e:=0,var:=true,fz:=false,sz:=0,cells:=H5},none,none,none,none,none,none,none,none,none,none,none,none,none,none,none,none,none,none,none,none,none,none,none,none,none,none,none,none,none,none,none,none,none,none,none,none]}),(3,{next:=1,l:=[some {e:=0,var:=true,fz:=false,sz:=0,cells:=[di 0]},none]})]⟩ ?_ ?_ rfl ?_
 .simp only[cJ,ff]
  repeat'(first|(with_reducible first|refine aa _ _ ?_|refine ak ?_|refine ao ?_)|rw[af]|simp only[zY,Int.reduceEq,Int.reduceBEq,Int.reduceBNe,Nat.reduceSub,Nat.reduceEqDiff,Nat.reduceAdd,Nat.reduceMul,Nat.reduceLeDiff,Nat.reduceLT,Nat.reduceBEq,reduceCtorEq]|refine aj ?_|refine ag (λ hb=> ?_) (λ hb=> ?_)|(refine And.intro ?_ ?_;exact zI)|refine And.intro (λ hg=> ?_) (λ hg=> ?_)|exact zC|fail)
  exact λ _ _ _ h=>h
 .exact⟨⟨_,rfl,rfl,rfl,rfl,rfl⟩,⟨_,rfl,rfl,rfl,rfl,rfl⟩,trivial⟩
 .have h1:=Jj bs m h hm hb;have h2:=Ja m hm;rw[←hb]at h2;have h3:=Ak bs.length bs rfl;have hl:decide ((bs.length:Int)>2048)=false:=by
   have:=rp hm;have e:bs.length=1+(dk m).length:=by rw[hb,dW,b6];rfl
   simp;omega
  have hne:((bs.length:Int) !=(bs.length:Int))=false:=by simp
  repeat'(first|(with_reducible first|refine aa _ _ ?_|refine ak ?_|refine ao ?_)|rw[af]|simp only[hl,zY,Int.reduceEq,Int.reduceBEq,Int.reduceBNe,Nat.reduceSub,Nat.reduceEqDiff,Nat.reduceAdd,Nat.reduceMul,Nat.reduceLeDiff,Nat.reduceLT,Nat.reduceBEq,reduceCtorEq]|refine aj ?_|refine ag (λ hb=> ?_) (λ hb=> ?_)|(refine And.intro ?_ ?_;exact zI)|refine And.intro (λ hg=> ?_) (λ hg=> ?_)|exact zC|fail)
  refine fa (mv:= ?mv1) (aJ:= ?le1) (x:= ?x1) (ass:= ?ass1) ?ha1 (h1) ?hr1 rfl ?hs1 ?hb1 ?hc1
  case ha1=>(try simp only[zY,Int.reduceEq,Int.reduceBEq,Int.reduceBNe,Nat.reduceSub,Nat.reduceEqDiff,Nat.reduceAdd,Nat.reduceMul,Nat.reduceLeDiff,Nat.reduceLT,Nat.reduceBEq,reduceCtorEq]);exact rfl
  case hr1=>simp[ea,eu]
  case hs1=>simp[cV,dq,dw,dG]
  case hb1=>(try simp only[zB,bA,Nat.reduceSub,Nat.reduceEqDiff,Nat.reduceAdd,Nat.reduceMul,Nat.reduceLeDiff,Nat.reduceLT,Nat.reduceBEq,reduceCtorEq]);repeat'(first|rfl|trivial|omega|with_reducible refine And.intro ?_ ?_)
  show aP _ _ _ _ _ _ _ _;have t2:(aI bs).take bs.length=aI bs:=dX (by rw[cF];exact Nat.le_refl _)
  repeat'(first|(with_reducible first|refine aa _ _ ?_|refine ak ?_|refine ao ?_)|rw[af]|simp only[hne,t2,p8,zY,Int.reduceEq,Int.reduceBEq,Int.reduceBNe,Nat.reduceSub,Nat.reduceEqDiff,Nat.reduceAdd,Nat.reduceMul,Nat.reduceLeDiff,Nat.reduceLT,Nat.reduceBEq,reduceCtorEq]|((first|((try refine aD ?_);apply aE)|(apply aG;intro _));(solve|exact(h2)|exact(h3)|(refine ae.le (h2) ?_;exact zM)|(refine ae.le (h3) ?_;exact zM)|fail);try case hn=>rfl)|refine aj ?_|refine ag (λ hb=> ?_) (λ hb=> ?_)|(refine And.intro ?_ ?_;exact zI)|refine And.intro (λ hg=> ?_) (λ hg=> ?_)|exact zC|fail)
theorem LZ (bs:List Int) (m:br) (hm:br.may m=true) (hb:bs=jC m):
  ae prog 14 [.f (bE bs.length (aI bs))] (λ r o=>r=[.agg ((tH m).map RO.d),ri 0]/\o=[]):=by
 have h:fF bs:=hb▸My hm;refine kz aO mixed (T:=Ty) func14 rfl results14 ntmps14 call14 call39 (ks:=[2,3]) rfl rfl rfl rfl rfl rfl (by decide) (by decide)
  (xs:=[bE bs.length (aI bs)]) (sz:=HW) (nw:=λ _ _=>[]) zG Br ⟨[bE bs.length (aI bs),dd, .one (.ptr ⟨2,0,0⟩ 0), .one (.ptr ⟨3,0,0⟩ 0),dd,dd,dd,dd,dd,dd,dd,dd,dd,dd,dd,dd,dd,dd,dd,dd,dd,dd,dd,dd,dd,dd,dd,dd,dd,dd,dd,dd,dd,dd,dd,dd,dd,dd,dd],[(2,{next:=1,l:=[some {e:=0,var:=true,fz:=false,sz:=0,cells:=H5},none,none,none,none,none,none,none,none,none,none,none,none,none,none,none,none,none,none,none,none,none,none,none,none,none,none,none,none,none,none,none,none,none,none,none,none]}),(3,{next:=1,l:=[some {e:=0,var:=true,fz:=false,sz:=0,cells:=[di 0]},none]})]⟩ ?_ ?_ rfl ?_
 .simp only[cJ,ff]
  repeat'(first|(with_reducible first|refine aa _ _ ?_|refine ak ?_|refine ao ?_)|rw[af]|simp only[zY,Int.reduceEq,Int.reduceBEq,Int.reduceBNe,Nat.reduceSub,Nat.reduceEqDiff,Nat.reduceAdd,Nat.reduceMul,Nat.reduceLeDiff,Nat.reduceLT,Nat.reduceBEq,reduceCtorEq]|refine aj ?_|refine ag (λ hb=> ?_) (λ hb=> ?_)|(refine And.intro ?_ ?_;exact zI)|refine And.intro (λ hg=> ?_) (λ hg=> ?_)|exact zC|fail)
  exact λ _ _ _ h=>h
 .exact⟨⟨_,rfl,rfl,rfl,rfl,rfl⟩,⟨_,rfl,rfl,rfl,rfl,rfl⟩,trivial⟩
 .have h1:=JE bs m h hm hb;obtain⟨f1,f2,f3⟩:=ud hm;obtain⟨g1,g2,g3,g4,g5⟩:=mN f3;have h2:=uE m ⟨by unfold i64;omega,by unfold i64;omega,by unfold i64;omega,by unfold i64;omega,by omega⟩ hm;rw[Be,←hb,cF]at h2;have h3:=Ak bs.length bs rfl;have hl:decide ((bs.length:Int)>2048)=false:=by
   have e:bs.length=20+m.name.size:=by rw[hb,jC,jS,jN];simp[ef,lp];omega
   simp;omega
  have hne:((bs.length:Int) !=(bs.length:Int))=false:=by simp
  repeat'(first|(with_reducible first|refine aa _ _ ?_|refine ak ?_|refine ao ?_)|rw[af]|simp only[hl,zY,Int.reduceEq,Int.reduceBEq,Int.reduceBNe,Nat.reduceSub,Nat.reduceEqDiff,Nat.reduceAdd,Nat.reduceMul,Nat.reduceLeDiff,Nat.reduceLT,Nat.reduceBEq,reduceCtorEq]|refine aj ?_|refine ag (λ hb=> ?_) (λ hb=> ?_)|(refine And.intro ?_ ?_;exact zI)|refine And.intro (λ hg=> ?_) (λ hg=> ?_)|exact zC|fail)
  refine fa (mv:= ?mv2) (aJ:= ?le2) (x:= ?x2) (ass:= ?ass2) ?ha2 (h1) ?hr2 rfl ?hs2 ?hb2 ?hc2
  case ha2=>(try simp only[zY,Int.reduceEq,Int.reduceBEq,Int.reduceBNe,Nat.reduceSub,Nat.reduceEqDiff,Nat.reduceAdd,Nat.reduceMul,Nat.reduceLeDiff,Nat.reduceLT,Nat.reduceBEq,reduceCtorEq]);exact rfl
  case hr2=>simp[ea,eu]
  case hs2=>simp[cV,dq,dw,dG]
  case hb2=>(try simp only[zB,bA,Nat.reduceSub,Nat.reduceEqDiff,Nat.reduceAdd,Nat.reduceMul,Nat.reduceLeDiff,Nat.reduceLT,Nat.reduceBEq,reduceCtorEq]);repeat'(first|rfl|trivial|omega|with_reducible refine And.intro ?_ ?_)
  show aP _ _ _ _ _ _ _ _;have t2:(aI bs).take bs.length=aI bs:=dX (by rw[cF];exact Nat.le_refl _)
  repeat'(first|(with_reducible first|refine aa _ _ ?_|refine ak ?_|refine ao ?_)|rw[af]|simp only[hne,t2,p8,zY,Int.reduceEq,Int.reduceBEq,Int.reduceBNe,Nat.reduceSub,Nat.reduceEqDiff,Nat.reduceAdd,Nat.reduceMul,Nat.reduceLeDiff,Nat.reduceLT,Nat.reduceBEq,reduceCtorEq]|((first|((try refine aD ?_);apply aE)|(apply aG;intro _));(solve|exact(h2)|exact(h3)|(refine ae.le (h2) ?_;exact zM)|(refine ae.le (h3) ?_;exact zM)|fail);try case hn=>rfl)|refine aj ?_|refine ag (λ hb=> ?_) (λ hb=> ?_)|(refine And.intro ?_ ?_;exact zI)|refine And.intro (λ hg=> ?_) (λ hg=> ?_)|exact zC|fail)
def jm:ByteArray:=⟨#[97]⟩
theorem Np:dF jm=true:=by kernel_rfl
theorem se:nm dK:=by have:=LL (ns:=[]) (by simp);exact this
abbrev rq (id:Int):br:=⟨id,1,1,0, .empty⟩
def wb (c:cU) (id:Int):e9:=⟨c,id,0,0,[⟨3,0,jm⟩],false,⟨0,0,0,0, .empty⟩,0,false,0,0,id % c.bw⟩
def kg (c:cU) (id:Int):e9:=⟨c,id,0,0,[⟨3,0,jm⟩],true,rq id,0,true,0,1,id % c.bw⟩
theorem Mw (c:cU) (id:Int):gm (qV c id) 3 jm=(wb c id,0):=by unfold gm;rw[ar (by simp[gz,Np]),ar (by simp[qV])];rfl
theorem Lh (c:cU) (id:Int):vQ (wb c id) 0=kg c id:=rfl
theorem uq:ae prog 11 [.f (al 0 [])] (λ r o=>r=[.agg (dK.enc.map RO.d)]/\o=[]):=
 MY [] (by simp) (by simp)
theorem A6:ae prog 9 [] (λ r o=>r=[rb true]/\o=[]):=by
 refine aR aO mixed (T:=Ty) (n:=69) func9 (c:=f9.body.getD .skip) rfl results9 ntmps9 call9 ?_;simp only[f9,Option.getD];have hc:=uq;have hnw:=Nu dK 2 se (by decide);have hnb:=Mi dK 3 se (by decide);have hak:=NA (qV dK 2) 3 jm (by decide) (by decide);rw[Mw]at hak;have hop:=MO (wb dK 2) 0 ⟨3,0,jm⟩ [] (by decide) rfl rfl (by decide) rfl rfl (by decide) (by decide);rw[Lh]at hop;have hou:=MU (kg dK 2) rfl;have has:=MA (kg dK 2) (by decide)
 repeat'(first|(with_reducible first|refine aa _ _ ?_|refine ak ?_|refine ao ?_)|rw[af]|simp only[zY,Int.reduceEq,Int.reduceBEq,Int.reduceBNe,Nat.reduceSub,Nat.reduceEqDiff,Nat.reduceAdd,Nat.reduceMul,Nat.reduceLeDiff,Nat.reduceLT,Nat.reduceBEq,reduceCtorEq]|((first|((try refine aD ?_);apply aE)|(apply aG;intro _));(solve|exact(hc)|exact(hnb)|(refine ae.le (hc) ?_;exact zM)|(refine ae.le (hnb) ?_;exact zM)|fail);try case hn=>rfl)|refine oD (hnw) ?_|(refine oD (gy.le (hnw) ?_) ?_;focus(simp[cV,dq,dw,dG]<;>fail))|refine aj ?_|refine ag (λ hb=> ?_) (λ hb=> ?_)|(refine And.intro ?_ ?_;exact zI)|refine And.intro (λ hg=> ?_) (λ hg=> ?_)|exact zC|fail)
 refine fa (mv:= ?mv1) (aJ:= ?le1) (x:= ?x1) (ass:= ?ass1) ?ha1 (hak) ?hr1 rfl ?hs1 ?hb1 ?hc1
 case ha1=>(try simp only[zY,Int.reduceEq,Int.reduceBEq,Int.reduceBNe,jm,Nat.reduceSub,Nat.reduceEqDiff,Nat.reduceAdd,Nat.reduceMul,Nat.reduceLeDiff,Nat.reduceLT,Nat.reduceBEq,reduceCtorEq]);exact rfl
 case hr1=>simp[ea,eu,jm]
 case hs1=>simp[cV,dq,dw,dG,jm]
 case hb1=>(try simp only[zB,bA,jm,Nat.reduceSub,Nat.reduceEqDiff,Nat.reduceAdd,Nat.reduceMul,Nat.reduceLeDiff,Nat.reduceLT,Nat.reduceBEq,reduceCtorEq]);repeat'(first|rfl|trivial|omega|with_reducible refine And.intro ?_ ?_)
 show aP _ _ _ _ _ _ _ _
 repeat'(first|(with_reducible first|refine aa _ _ ?_|refine ak ?_|refine ao ?_)|rw[af]|simp only[zY,Int.reduceEq,Int.reduceBEq,Int.reduceBNe,Nat.reduceSub,Nat.reduceEqDiff,Nat.reduceAdd,Nat.reduceMul,Nat.reduceLeDiff,Nat.reduceLT,Nat.reduceBEq,reduceCtorEq]|refine aj ?_|refine ag (λ hb=> ?_) (λ hb=> ?_)|(refine And.intro ?_ ?_;exact zI)|refine And.intro (λ hg=> ?_) (λ hg=> ?_)|exact zC|fail)
 refine fa (mv:= ?mv2) (aJ:= ?le2) (x:= ?x2) (ass:= ?ass2) ?ha2 (hop) ?hr2 rfl ?hs2 ?hb2 ?hc2
 case ha2=>(try simp only[zY,Int.reduceEq,Int.reduceBEq,Int.reduceBNe,Nat.reduceSub,Nat.reduceEqDiff,Nat.reduceAdd,Nat.reduceMul,Nat.reduceLeDiff,Nat.reduceLT,Nat.reduceBEq,reduceCtorEq]);exact rfl
 case hr2=>simp[ea,eu]
 case hs2=>simp[cV,dq,dw,dG]
 case hb2=>(try simp only[zB,bA,Nat.reduceSub,Nat.reduceEqDiff,Nat.reduceAdd,Nat.reduceMul,Nat.reduceLeDiff,Nat.reduceLT,Nat.reduceBEq,reduceCtorEq]);repeat'(first|rfl|trivial|omega|with_reducible refine And.intro ?_ ?_)
 show aP _ _ _ _ _ _ _ _;have g1:((kg dK 2).turn==2)=true:=rfl;have g2:((kg dK 2).out.bh==2)=true:=rfl;have g3:((kg dK 2).out.seq==1)=true:=rfl;have g4:((kg dK 2).out.kind==1)=true:=rfl;have g5:((kg dK 2).out.aF==0)=true:=rfl;have g6:((kg dK 2).out.name.toList==ByteArray.empty.toList)=true:=by simp[kg]
 have g7:((((kg dK 2).asks.length:Nat):Int)==1)=true:=rfl
 repeat'(first|(with_reducible first|refine aa _ _ ?_|refine ak ?_|refine ao ?_)|rw[af]|simp only[g1,g2,g3,g4,g5,g6,g7,aS,zY,Int.reduceEq,Int.reduceBEq,Int.reduceBNe,Nat.reduceSub,Nat.reduceEqDiff,Nat.reduceAdd,Nat.reduceMul,Nat.reduceLeDiff,Nat.reduceLT,Nat.reduceBEq,reduceCtorEq]|((first|((try refine aD ?_);apply aE)|(apply aG;intro _));(solve|exact(hou)|exact(has)|(refine ae.le (hou) ?_;exact zM)|(refine ae.le (has) ?_;exact zM)|fail);try case hn=>rfl)|refine aj ?_|refine ag (λ hb=> ?_) (λ hb=> ?_)|(refine And.intro ?_ ?_;exact zI)|refine And.intro (λ hg=> ?_) (λ hg=> ?_)|exact zC|fail)
 rfl
theorem AP (s:ByteArray) (hs:s.size<2^62):ae prog 34 [.f (mI s)] (λ r o=>r=[rb (dF s)]/\o=[]):=by
 refine aR aO mixed (T:=Ty) (n:=41) func34 (c:=f34.body.getD .skip) rfl results34 ntmps34 call34 ?_;simp only[f34,Option.getD]
 repeat(first|with_reducible refine aa _ _ ?_|with_reducible refine ax (aa _ _) ?_|with_reducible refine ax (ax (aa _ _)) ?_|with_reducible refine ax (ax (ax (aa _ _))) ?_|rw[af]|simp only[zB,Nat.reduceSub,Nat.reduceEqDiff,Nat.reduceAdd,Nat.reduceMul,Nat.reduceLeDiff,Nat.reduceLT,Nat.reduceBEq,reduceCtorEq])
 refine ag (λ hb=> ?_) (λ hb=> ?_)
 .repeat(first|with_reducible refine aa _ _ ?_|with_reducible refine ax (aa _ _) ?_|with_reducible refine ax (ax (aa _ _)) ?_|with_reducible refine ax (ax (ax (aa _ _))) ?_|rw[af]|simp only[zB,Nat.reduceSub,Nat.reduceEqDiff,Nat.reduceAdd,Nat.reduceMul,Nat.reduceLeDiff,Nat.reduceLT,Nat.reduceBEq,reduceCtorEq])
  have:dF s=false:=by unfold dF;rw[Bool.and_eq_false_iff];right;simp only[nq,eo]at hb;simp only[Bool.and_eq_false_iff,iP];omega
  rw[this]
 have hsz:(decide ((s.size:Int)≥1)&&decide ((s.size:Int)≤12))=true:=by simp only[kU,iP]at hb;simp only[cu,eo];omega
 repeat(first|with_reducible refine aa _ _ ?_|with_reducible refine ax (aa _ _) ?_|with_reducible refine ax (ax (aa _ _)) ?_|with_reducible refine ax (ax (ax (aa _ _))) ?_|rw[af]|simp only[zB,Nat.reduceSub,Nat.reduceEqDiff,Nat.reduceAdd,Nat.reduceMul,Nat.reduceLeDiff,Nat.reduceLT,Nat.reduceBEq,reduceCtorEq])
 refine fJ Ty prog (τ:=Nat) (λ i=>⟨[mI s,dd,ab false,ai i,dd,dd,dd,dd,dd,dd,dd,dd,dd,dd,dd,dd,dd,dd,dd,dd,dd,dd,dd,dd,dd,dd,dd,dd,dd,dd,dd,dd,dd,dd,dd,dd,dd,dd,dd,dd,dd],[]⟩) (λ i=>i≤s.size/\∀j,j<i->lA (s.data.getD j 0)=true) (λ i=>s.size - i) 0 ?_ ⟨dA _,λ j hj=>absurd hj (Nat.not_lt_zero j)⟩ ?_
 .refine Gh.fH ?_;simp only[ov,oA,oH,bK]
 intro i ⟨h1,h2⟩ K hK
 repeat(first|with_reducible refine aa _ _ ?_|with_reducible refine ax (aa _ _) ?_|with_reducible refine ax (ax (aa _ _)) ?_|with_reducible refine ax (ax (ax (aa _ _))) ?_|rw[af]|simp only[zB,Nat.reduceSub,Nat.reduceEqDiff,Nat.reduceAdd,Nat.reduceMul,Nat.reduceLeDiff,Nat.reduceLT,Nat.reduceBEq,reduceCtorEq])
 refine ag (λ hlt=> ?_) (λ hge=> ?_)
 .have hi:i<s.size:=by simpa using hlt
  repeat(first|with_reducible refine aa _ _ ?_|with_reducible refine ax (aa _ _) ?_|with_reducible refine ax (ax (aa _ _)) ?_|with_reducible refine ax (ax (ax (aa _ _))) ?_|rw[af]|simp only[zB,Nat.reduceSub,Nat.reduceEqDiff,Nat.reduceAdd,Nat.reduceMul,Nat.reduceLeDiff,Nat.reduceLT,Nat.reduceBEq,reduceCtorEq])
  refine⟨⟨Int.natCast_nonneg i,by omega⟩, ?_⟩;refine⟨sM ?_, ?_⟩
  .simp_all;omega
  have hok:lA (s.data.getD i 0)= !((decide (((s.data.getD i 0).toNat:Int)<97)||decide (((s.data.getD i 0).toNat:Int)>122))&&(decide (((s.data.getD i 0).toNat:Int)<48)||decide (((s.data.getD i 0).toNat:Int)>57))&&(((s.data.getD i 0).toNat:Int) !=45)):=rfl;generalize ((s.data.getD i 0).toNat:Int)=c at hok⊢;refine ag (λ hb2=> ?_) (λ hb2=> ?_)
  .repeat(first|with_reducible refine aa _ _ ?_|with_reducible refine ax (aa _ _) ?_|with_reducible refine ax (ax (aa _ _)) ?_|with_reducible refine ax (ax (ax (aa _ _))) ?_|rw[af]|simp only[zB,Nat.reduceSub,Nat.reduceEqDiff,Nat.reduceAdd,Nat.reduceMul,Nat.reduceLeDiff,Nat.reduceLT,Nat.reduceBEq,reduceCtorEq])
   have hn:dF s=false:=by unfold dF;rw[show((List.range s.size).all λ j=>lA (s.data.getD j 0))=false from List.all_eq_false.2 ⟨i,qv.2 hi,by rw[hok];revert hb2;simp;omega⟩,ko]
   rw[hn]
  .repeat(first|with_reducible refine aa _ _ ?_|with_reducible refine ax (aa _ _) ?_|with_reducible refine ax (ax (aa _ _)) ?_|with_reducible refine ax (ax (ax (aa _ _))) ?_|rw[af]|simp only[zB,Nat.reduceSub,Nat.reduceEqDiff,Nat.reduceAdd,Nat.reduceMul,Nat.reduceLeDiff,Nat.reduceLT,Nat.reduceBEq,reduceCtorEq])
   refine hK _ (i+1) (Gh.fH ?_) ⟨hi,λ j hj=> ?_⟩ (by omega)
   .simp only[fv hi (by omega),ov,oA,oH]
   .rcases gW j i with h|h
    .exact h2 j h
    .rw[show j=i from by omega,hok];revert hb2;simp;omega
 .repeat(first|with_reducible refine aa _ _ ?_|with_reducible refine ax (aa _ _) ?_|with_reducible refine ax (ax (aa _ _)) ?_|with_reducible refine ax (ax (ax (aa _ _))) ?_|rw[af]|simp only[zB,Nat.reduceSub,Nat.reduceEqDiff,Nat.reduceAdd,Nat.reduceMul,Nat.reduceLeDiff,Nat.reduceLT,Nat.reduceBEq,reduceCtorEq])
  have hi:i=s.size:=by
   have:¬(i:Int)<s.size:=by simpa using hge
   omega
  have hn:dF s=true:=by unfold dF;rw[show((List.range s.size).all λ j=>lA (s.data.getD j 0))=true from iu.2 λ j hj=>h2 j (by rw[hi];exact qv.1 hj),kh,hsz]
  rw[hn]
theorem take_nil:ae prog 17 [.f N0, .f cY] (λ r o=>r=[rb false]/\o=[]):=by
 refine aR aO mixed (T:=Ty) (n:=127) func17 (c:=f17.body.getD .skip) rfl results17 ntmps17 call17 ?_;simp only[f17,Option.getD]
 repeat'(first|(with_reducible first|refine aa _ _ ?_|refine ak ?_|refine ao ?_)|rw[af]|simp only[zY,Int.reduceEq,Int.reduceBEq,Int.reduceBNe,Nat.reduceSub,Nat.reduceEqDiff,Nat.reduceAdd,Nat.reduceMul,Nat.reduceLeDiff,Nat.reduceLT,Nat.reduceBEq,reduceCtorEq]|refine aj ?_|refine ag (λ hb=> ?_) (λ hb=> ?_)|(refine And.intro ?_ ?_;exact zI)|refine And.intro (λ hg=> ?_) (λ hg=> ?_)|exact zC|fail)
def ku (a b:bt):Bool:=(a.name.toList==b.name.toList)&&(a.token==b.token)
def nG (a b:List bt):Bool:=(a.length==b.length)&&((a.zip b).all λ p=>ku p.1 p.2)
theorem IE (a b:List bt) (ha:a.length<2^30) (hb:b.length<2^30):ae prog 25 [.f (al a.length (ch a)), .f (al b.length (ch b))] (λ r o=>r=[rb (nG a b)]/\o=[]):=by
 refine aR aO mixed (T:=Ty) (n:=26) func25 (c:=f25.body.getD .skip) rfl results25 ntmps25 call25 ?_;simp only[f25,Option.getD];cases hl:((a.length:Int) !=(b.length:Int))
 .have hle:a.length=b.length:=by simp at hl;omega
  have hs:nG a b=(a.zip b).all λ p=>ku p.1 p.2:=by unfold nG;rw[hle];simp
  rw[hs]
  repeat'(first|(with_reducible first|refine aa _ _ ?_|refine ak ?_|refine ao ?_)|rw[af]|simp only[hl,zY,Int.reduceEq,Int.reduceBEq,Int.reduceBNe,Nat.reduceSub,Nat.reduceEqDiff,Nat.reduceAdd,Nat.reduceMul,Nat.reduceLeDiff,Nat.reduceLT,Nat.reduceBEq,reduceCtorEq]|refine aj ?_|refine ag (λ hb=> ?_) (λ hb=> ?_)|(refine And.intro ?_ ?_;exact zI)|refine And.intro (λ hg=> ?_) (λ hg=> ?_)|exact zC|fail)
  refine gr (τ:=Nat) (λ i=>⟨[al a.length (ch a),al b.length (ch b),dd,dd,dd,ai i,dd,dd,dd,dd,dd,dd,dd,dd,dd,dd,dd,dd,dd,dd,dd,dd,dd,dd,dd,dd],[]⟩)
   (λ i=>i≤a.length) (λ i=>((a.drop i).zip (b.drop i)).all λ p=>ku p.1 p.2) (λ i=>a.length - i) 0
   (Gh.canon [] [] [] zK rfl rfl) (dA _) ?_
  intro i hi0 hF K hK;rw[gB,gB]at hF
  repeat(first|with_reducible refine aa _ _ ?_|with_reducible refine ax (aa _ _) ?_|with_reducible refine ax (ax (aa _ _)) ?_|with_reducible refine ax (ax (ax (aa _ _))) ?_|rw[af]|simp only[zB,Nat.reduceSub,Nat.reduceEqDiff,Nat.reduceAdd,Nat.reduceMul,Nat.reduceLeDiff,Nat.reduceLT,Nat.reduceBEq,reduceCtorEq])
  refine ag (λ hlt=> ?_) (λ hge=> ?_)
  .have hi:i<a.length:=by simpa using hlt
   have hib:i<b.length:=by omega
   have hat:=gL hi;have hbt:=gL hib;have hw:=fv hi (by omega);have hq:(((a.drop i).zip (b.drop i)).all λ p=>ku p.1 p.2)=(ku a[i] b[i]&&(((a.drop (i+1)).zip (b.drop (i+1))).all λ p=>ku p.1 p.2)):=by rw[kn hi,kn hib,qB,List.all_cons]
   rw[hq]at hF;have hlb:decide ((i:Int)<b.length)=true:=by simp;omega
   repeat'(first|(with_reducible first|refine aa _ _ ?_|refine ak ?_|refine ao ?_)|rw[af]|simp only[hat,hbt,hlb,eD,eJ,en,zY,Int.reduceEq,Int.reduceBEq,Int.reduceBNe,Nat.reduceSub,Nat.reduceEqDiff,Nat.reduceAdd,Nat.reduceMul,Nat.reduceLeDiff,Nat.reduceLT,Nat.reduceBEq,reduceCtorEq]|refine aj ?_|refine ag (λ hb=> ?_) (λ hb=> ?_)|(refine And.intro ?_ ?_;exact zI)|refine And.intro (λ hg=> ?_) (λ hg=> ?_)|exact zC|fail)
   .have he:ku a[i] b[i]=false:=by rw[ku];simpa only[jF]using hb
    rw[he,ko]at hF;rw[←hF]
   .have he:ku a[i] b[i]=true:=by rw[ku];simpa only[Bool.not_eq_false']using hb
    rw[he,kh]at hq;exact hK _ (i+1) (Gh.canon [] [] [] (by simp only[hw,bN,bS,bW,bR,bT,bU,bV,bM,bO,bL,bH,bK,bX,D.v.injEq,bY];try(repeat'(first|rfl|omega|with_reducible apply And.intro))) rfl rfl) hi hq.symm (by omega)
  .have hi:i=a.length:=by
    have:¬(i:Int)<a.length:=by simpa using hge
    omega
   rw[hi,pb,List.zip_nil_left,List.all_nil]at hF;rw[←hF]
   repeat'(first|(with_reducible first|refine aa _ _ ?_|refine ak ?_|refine ao ?_)|rw[af]|simp only[zY,Int.reduceEq,Int.reduceBEq,Int.reduceBNe,Nat.reduceSub,Nat.reduceEqDiff,Nat.reduceAdd,Nat.reduceMul,Nat.reduceLeDiff,Nat.reduceLT,Nat.reduceBEq,reduceCtorEq]|refine aj ?_|refine ag (λ hb=> ?_) (λ hb=> ?_)|(refine And.intro ?_ ?_;exact zI)|refine And.intro (λ hg=> ?_) (λ hg=> ?_)|exact zC|fail)
 .have hs:nG a b=false:=by
   have:(a.length==b.length)=false:=by simp at hl⊢;omega
   unfold nG;rw[this];rfl
  rw[hs]
  repeat'(first|(with_reducible first|refine aa _ _ ?_|refine ak ?_|refine ao ?_)|rw[af]|simp only[hl,zY,Int.reduceEq,Int.reduceBEq,Int.reduceBNe,Nat.reduceSub,Nat.reduceEqDiff,Nat.reduceAdd,Nat.reduceMul,Nat.reduceLeDiff,Nat.reduceLT,Nat.reduceBEq,reduceCtorEq]|refine aj ?_|refine ag (λ hb=> ?_) (λ hb=> ?_)|(refine And.intro ?_ ?_;exact zI)|refine And.intro (λ hg=> ?_) (λ hg=> ?_)|exact zC|fail)
theorem zH:ae prog 187 [.f cY, .f cY] (λ r o=>r=[rb true]/\o=[]):=by
 refine aR aO mixed (T:=Ty) (n:=26) func187 (c:=f187.body.getD .skip) rfl results187 ntmps187 call187 ?_;simp only[f187,Option.getD]
 repeat'(first|(with_reducible first|refine aa _ _ ?_|refine ak ?_|refine ao ?_)|rw[af]|simp only[zY,Int.reduceEq,Int.reduceBEq,Int.reduceBNe,Nat.reduceSub,Nat.reduceEqDiff,Nat.reduceAdd,Nat.reduceMul,Nat.reduceLeDiff,Nat.reduceLT,Nat.reduceBEq,reduceCtorEq]|refine aj ?_|refine ag (λ hb=> ?_) (λ hb=> ?_)|(refine And.intro ?_ ?_;exact zI)|refine And.intro (λ hg=> ?_) (λ hg=> ?_)|exact zC|fail)
 refine fJ Ty prog (τ:=Unit) (λ _=>⟨[cY,cY,dd,dd,dd,ai 0,dd,dd,dd,dd,dd,dd,dd,dd,dd,dd,dd,dd,dd,dd,dd,dd,dd,dd,dd,dd],[]⟩) (λ _=>True) (λ _=>0) ()
  (Gh.canon [] [] [] zK rfl rfl) trivial ?_
 intro _ _ K hK;have h0:decide ((0:Int)<0)=false:=rfl
 repeat'(first|(with_reducible first|refine aa _ _ ?_|refine ak ?_|refine ao ?_)|rw[af]|simp only[h0,zY,Int.reduceEq,Int.reduceBEq,Int.reduceBNe,Nat.reduceSub,Nat.reduceEqDiff,Nat.reduceAdd,Nat.reduceMul,Nat.reduceLeDiff,Nat.reduceLT,Nat.reduceBEq,reduceCtorEq]|refine aj ?_|refine ag (λ hb=> ?_) (λ hb=> ?_)|(refine And.intro ?_ ?_;exact zI)|refine And.intro (λ hg=> ?_) (λ hg=> ?_)|exact zC|fail)
theorem zr:ae prog 206 [.f cY, .f cY] (λ r o=>r=[rb true]/\o=[]):=by
 refine aR aO mixed (T:=Ty) (n:=26) func206 (c:=f206.body.getD .skip) rfl results206 ntmps206 call206 ?_;simp only[f206,Option.getD]
 repeat'(first|(with_reducible first|refine aa _ _ ?_|refine ak ?_|refine ao ?_)|rw[af]|simp only[zY,Int.reduceEq,Int.reduceBEq,Int.reduceBNe,Nat.reduceSub,Nat.reduceEqDiff,Nat.reduceAdd,Nat.reduceMul,Nat.reduceLeDiff,Nat.reduceLT,Nat.reduceBEq,reduceCtorEq]|refine aj ?_|refine ag (λ hb=> ?_) (λ hb=> ?_)|(refine And.intro ?_ ?_;exact zI)|refine And.intro (λ hg=> ?_) (λ hg=> ?_)|exact zC|fail)
 refine fJ Ty prog (τ:=Unit) (λ _=>⟨[cY,cY,dd,dd,dd,ai 0,dd,dd,dd,dd,dd,dd,dd,dd,dd,dd,dd,dd,dd,dd,dd,dd,dd,dd,dd,dd],[]⟩) (λ _=>True) (λ _=>0) ()
  (Gh.canon [] [] [] zK rfl rfl) trivial ?_
 intro _ _ K hK;have h0:decide ((0:Int)<0)=false:=rfl
 repeat'(first|(with_reducible first|refine aa _ _ ?_|refine ak ?_|refine ao ?_)|rw[af]|simp only[h0,zY,Int.reduceEq,Int.reduceBEq,Int.reduceBNe,Nat.reduceSub,Nat.reduceEqDiff,Nat.reduceAdd,Nat.reduceMul,Nat.reduceLeDiff,Nat.reduceLT,Nat.reduceBEq,reduceCtorEq]|refine aj ?_|refine ag (λ hb=> ?_) (λ hb=> ?_)|(refine And.intro ?_ ?_;exact zI)|refine And.intro (λ hg=> ?_) (λ hg=> ?_)|exact zC|fail)
theorem xR:ae prog 207 [.f cY, .f cY] (λ r o=>r=[rb true]/\o=[]):=by
 refine aR aO mixed (T:=Ty) (n:=68) func207 (c:=f207.body.getD .skip) rfl results207 ntmps207 call207 ?_;simp only[f207,Option.getD]
 repeat'(first|(with_reducible first|refine aa _ _ ?_|refine ak ?_|refine ao ?_)|rw[af]|simp only[zY,Int.reduceEq,Int.reduceBEq,Int.reduceBNe,Nat.reduceSub,Nat.reduceEqDiff,Nat.reduceAdd,Nat.reduceMul,Nat.reduceLeDiff,Nat.reduceLT,Nat.reduceBEq,reduceCtorEq]|refine aj ?_|refine ag (λ hb=> ?_) (λ hb=> ?_)|(refine And.intro ?_ ?_;exact zI)|refine And.intro (λ hg=> ?_) (λ hg=> ?_)|exact zC|fail)
 refine fJ Ty prog (τ:=Unit) (λ _=>⟨[cY,cY,dd,dd,dd,ai 0,dd,dd,dd,dd,dd,dd,dd,dd,dd,dd,dd,dd,dd,dd,dd,dd,dd,dd,dd,dd,dd,dd,dd,dd,dd,dd,dd,dd,dd,dd,dd,dd,dd,dd,dd,dd,dd,dd,dd,dd,dd,dd,dd,dd,dd,dd,dd,dd,dd,dd,dd,dd,dd,dd,dd,dd,dd,dd,dd,dd,dd,dd],[]⟩) (λ _=>True) (λ _=>0) ()
  (Gh.canon [] [] [] zK rfl rfl) trivial ?_
 intro _ _ K hK;have h0:decide ((0:Int)<0)=false:=rfl
 repeat'(first|(with_reducible first|refine aa _ _ ?_|refine ak ?_|refine ao ?_)|rw[af]|simp only[h0,zY,Int.reduceEq,Int.reduceBEq,Int.reduceBNe,Nat.reduceSub,Nat.reduceEqDiff,Nat.reduceAdd,Nat.reduceMul,Nat.reduceLeDiff,Nat.reduceLT,Nat.reduceBEq,reduceCtorEq]|refine aj ?_|refine ag (λ hb=> ?_) (λ hb=> ?_)|(refine And.intro ?_ ?_;exact zI)|refine And.intro (λ hg=> ?_) (λ hg=> ?_)|exact zC|fail)
theorem yJ:ae prog 208 [.f cY, .f cY] (λ r o=>r=[rb true]/\o=[]):=by
 refine aR aO mixed (T:=Ty) (n:=55) func208 (c:=f208.body.getD .skip) rfl results208 ntmps208 call208 ?_;simp only[f208,Option.getD]
 repeat'(first|(with_reducible first|refine aa _ _ ?_|refine ak ?_|refine ao ?_)|rw[af]|simp only[zY,Int.reduceEq,Int.reduceBEq,Int.reduceBNe,Nat.reduceSub,Nat.reduceEqDiff,Nat.reduceAdd,Nat.reduceMul,Nat.reduceLeDiff,Nat.reduceLT,Nat.reduceBEq,reduceCtorEq]|refine aj ?_|refine ag (λ hb=> ?_) (λ hb=> ?_)|(refine And.intro ?_ ?_;exact zI)|refine And.intro (λ hg=> ?_) (λ hg=> ?_)|exact zC|fail)
 refine fJ Ty prog (τ:=Unit) (λ _=>⟨[cY,cY,dd,dd,dd,ai 0,dd,dd,dd,dd,dd,dd,dd,dd,dd,dd,dd,dd,dd,dd,dd,dd,dd,dd,dd,dd,dd,dd,dd,dd,dd,dd,dd,dd,dd,dd,dd,dd,dd,dd,dd,dd,dd,dd,dd,dd,dd,dd,dd,dd,dd,dd,dd,dd,dd],[]⟩) (λ _=>True) (λ _=>0) ()
  (Gh.canon [] [] [] zK rfl rfl) trivial ?_
 intro _ _ K hK;have h0:decide ((0:Int)<0)=false:=rfl
 repeat'(first|(with_reducible first|refine aa _ _ ?_|refine ak ?_|refine ao ?_)|rw[af]|simp only[h0,zY,Int.reduceEq,Int.reduceBEq,Int.reduceBNe,Nat.reduceSub,Nat.reduceEqDiff,Nat.reduceAdd,Nat.reduceMul,Nat.reduceLeDiff,Nat.reduceLT,Nat.reduceBEq,reduceCtorEq]|refine aj ?_|refine ag (λ hb=> ?_) (λ hb=> ?_)|(refine And.intro ?_ ?_;exact zI)|refine And.intro (λ hg=> ?_) (λ hg=> ?_)|exact zC|fail)
theorem ye:ae prog 188 [.f cY, .f cY] (λ r o=>r=[rb true]/\o=[]):=by
 refine aR aO mixed (T:=Ty) (n:=55) func188 (c:=f188.body.getD .skip) rfl results188 ntmps188 call188 ?_;simp only[f188,Option.getD]
 repeat'(first|(with_reducible first|refine aa _ _ ?_|refine ak ?_|refine ao ?_)|rw[af]|simp only[zY,Int.reduceEq,Int.reduceBEq,Int.reduceBNe,Nat.reduceSub,Nat.reduceEqDiff,Nat.reduceAdd,Nat.reduceMul,Nat.reduceLeDiff,Nat.reduceLT,Nat.reduceBEq,reduceCtorEq]|refine aj ?_|refine ag (λ hb=> ?_) (λ hb=> ?_)|(refine And.intro ?_ ?_;exact zI)|refine And.intro (λ hg=> ?_) (λ hg=> ?_)|exact zC|fail)
 refine fJ Ty prog (τ:=Unit) (λ _=>⟨[cY,cY,dd,dd,dd,ai 0,dd,dd,dd,dd,dd,dd,dd,dd,dd,dd,dd,dd,dd,dd,dd,dd,dd,dd,dd,dd,dd,dd,dd,dd,dd,dd,dd,dd,dd,dd,dd,dd,dd,dd,dd,dd,dd,dd,dd,dd,dd,dd,dd,dd,dd,dd,dd,dd,dd],[]⟩) (λ _=>True) (λ _=>0) ()
  (Gh.canon [] [] [] zK rfl rfl) trivial ?_
 intro _ _ K hK;have h0:decide ((0:Int)<0)=false:=rfl
 repeat'(first|(with_reducible first|refine aa _ _ ?_|refine ak ?_|refine ao ?_)|rw[af]|simp only[h0,zY,Int.reduceEq,Int.reduceBEq,Int.reduceBNe,Nat.reduceSub,Nat.reduceEqDiff,Nat.reduceAdd,Nat.reduceMul,Nat.reduceLeDiff,Nat.reduceLT,Nat.reduceBEq,reduceCtorEq]|refine aj ?_|refine ag (λ hb=> ?_) (λ hb=> ?_)|(refine And.intro ?_ ?_;exact zI)|refine And.intro (λ hg=> ?_) (λ hg=> ?_)|exact zC|fail)
theorem yd:ae prog 149 [.f (.agg [db false,di 0,di 0,di 0,di 0,dn]), .f (.agg [db false,di 0,di 0,di 0,di 0,dn])] (λ r o=>r=[rb true]/\o=[]):=by
 refine aR aO mixed (T:=Ty) (n:=38) func149 (c:=f149.body.getD .skip) rfl results149 ntmps149 call149 ?_;simp only[f149,Option.getD]
 repeat'(first|(with_reducible first|refine aa _ _ ?_|refine ak ?_|refine ao ?_)|rw[af]|simp only[zY,Int.reduceEq,Int.reduceBEq,Int.reduceBNe,Nat.reduceSub,Nat.reduceEqDiff,Nat.reduceAdd,Nat.reduceMul,Nat.reduceLeDiff,Nat.reduceLT,Nat.reduceBEq,reduceCtorEq]|((first|((try refine aD ?_);apply aE)|(apply aG;intro _));(solve|exact(zH)|(refine ae.le (zH) ?_;exact zM)|fail);try case hn=>rfl)|refine aj ?_|refine ag (λ hb=> ?_) (λ hb=> ?_)|(refine And.intro ?_ ?_;exact zI)|refine And.intro (λ hg=> ?_) (λ hg=> ?_)|exact zC|fail)
theorem zb:ae prog 150 [.f (.agg [di 0,di 0,di 0,di 0,di 0,dn]), .f (.agg [di 0,di 0,di 0,di 0,di 0,dn])] (λ r o=>r=[rb true]/\o=[]):=by
 refine aR aO mixed (T:=Ty) (n:=38) func150 (c:=f150.body.getD .skip) rfl results150 ntmps150 call150 ?_;simp only[f150,Option.getD]
 repeat'(first|(with_reducible first|refine aa _ _ ?_|refine ak ?_|refine ao ?_)|rw[af]|simp only[zY,Int.reduceEq,Int.reduceBEq,Int.reduceBNe,Nat.reduceSub,Nat.reduceEqDiff,Nat.reduceAdd,Nat.reduceMul,Nat.reduceLeDiff,Nat.reduceLT,Nat.reduceBEq,reduceCtorEq]|((first|((try refine aD ?_);apply aE)|(apply aG;intro _));(solve|exact(ye)|(refine ae.le (ye) ?_;exact zM)|fail);try case hn=>rfl)|refine aj ?_|refine ag (λ hb=> ?_) (λ hb=> ?_)|(refine And.intro ?_ ?_;exact zI)|refine And.intro (λ hg=> ?_) (λ hg=> ?_)|exact zC|fail)
theorem xw:ae prog 189 [.f (.agg [di 0,di 0,di 0,dn,dn,dn]), .f (.agg [di 0,di 0,di 0,dn,dn,dn])] (λ r o=>r=[rb true]/\o=[]):=by
 refine aR aO mixed (T:=Ty) (n:=45) func189 (c:=f189.body.getD .skip) rfl results189 ntmps189 call189 ?_;simp only[f189,Option.getD]
 repeat'(first|(with_reducible first|refine aa _ _ ?_|refine ak ?_|refine ao ?_)|rw[af]|simp only[zY,Int.reduceEq,Int.reduceBEq,Int.reduceBNe,Nat.reduceSub,Nat.reduceEqDiff,Nat.reduceAdd,Nat.reduceMul,Nat.reduceLeDiff,Nat.reduceLT,Nat.reduceBEq,reduceCtorEq]|((first|((try refine aD ?_);apply aE)|(apply aG;intro _));(solve|exact(zr)|exact(xR)|exact(yJ)|(refine ae.le (zr) ?_;exact zM)|(refine ae.le (xR) ?_;exact zM)|(refine ae.le (yJ) ?_;exact zM)|fail);try case hn=>rfl)|refine aj ?_|refine ag (λ hb=> ?_) (λ hb=> ?_)|(refine And.intro ?_ ?_;exact zI)|refine And.intro (λ hg=> ?_) (λ hg=> ?_)|exact zC|fail)
theorem yP:ae prog 151 [.f (.agg [di 0,di 0,di 0,di 0,di 0,di 0,dn,dn,dn]), .f (.agg [di 0,di 0,di 0,di 0,di 0,di 0,dn,dn,dn])] (λ r o=>r=[rb true]/\o=[]):=by
 refine aR aO mixed (T:=Ty) (n:=24) func151 (c:=f151.body.getD .skip) rfl results151 ntmps151 call151 ?_;simp only[f151,Option.getD]
 repeat'(first|(with_reducible first|refine aa _ _ ?_|refine ak ?_|refine ao ?_)|rw[af]|simp only[zY,Int.reduceEq,Int.reduceBEq,Int.reduceBNe,Nat.reduceSub,Nat.reduceEqDiff,Nat.reduceAdd,Nat.reduceMul,Nat.reduceLeDiff,Nat.reduceLT,Nat.reduceBEq,reduceCtorEq]|((first|((try refine aD ?_);apply aE)|(apply aG;intro _));(solve|exact(xw)|(refine ae.le (xw) ?_;exact zM)|fail);try case hn=>rfl)|refine aj ?_|refine ag (λ hb=> ?_) (λ hb=> ?_)|(refine And.intro ?_ ?_;exact zI)|refine And.intro (λ hg=> ?_) (λ hg=> ?_)|exact zC|fail)
theorem Kp (n m:Int):ae prog 111 [.f (ai n), .f (ai m)] (λ r o=>r=[rb (decide (n≥m)&&decide (n≤2305843009213693952))]/\o=[]):=by
 refine aR aO mixed (T:=Ty) (n:=12) func111 (c:=f111.body.getD .skip) rfl results111 ntmps111 call111 ?_;simp only[f111,Option.getD];cases h:decide (n≥m)
 .repeat'(first|(with_reducible first|refine aa _ _ ?_|refine ak ?_|refine ao ?_)|rw[af]|simp only[h,zY,Int.reduceEq,Int.reduceBEq,Int.reduceBNe,Nat.reduceSub,Nat.reduceEqDiff,Nat.reduceAdd,Nat.reduceMul,Nat.reduceLeDiff,Nat.reduceLT,Nat.reduceBEq,reduceCtorEq]|refine aj ?_|refine ag (λ hb=> ?_) (λ hb=> ?_)|(refine And.intro ?_ ?_;exact zI)|refine And.intro (λ hg=> ?_) (λ hg=> ?_)|exact zC|fail)
 .repeat'(first|(with_reducible first|refine aa _ _ ?_|refine ak ?_|refine ao ?_)|rw[af]|simp only[h,zY,Int.reduceEq,Int.reduceBEq,Int.reduceBNe,Nat.reduceSub,Nat.reduceEqDiff,Nat.reduceAdd,Nat.reduceMul,Nat.reduceLeDiff,Nat.reduceLT,Nat.reduceBEq,reduceCtorEq]|refine aj ?_|refine ag (λ hb=> ?_) (λ hb=> ?_)|(refine And.intro ?_ ?_;exact zI)|refine And.intro (λ hg=> ?_) (λ hg=> ?_)|exact zC|fail)
theorem sv (n m:Int):ae prog 152 [.f (ai n), .f (ai m)] (λ r o=>r=[rb (decide (n≥m)&&decide (n≤2305843009213693952))]/\o=[]):=by
 refine aR aO mixed (T:=Ty) (n:=12) func152 (c:=f152.body.getD .skip) rfl results152 ntmps152 call152 ?_;simp only[f152,Option.getD];cases h:decide (n≥m)
 .repeat'(first|(with_reducible first|refine aa _ _ ?_|refine ak ?_|refine ao ?_)|rw[af]|simp only[h,zY,Int.reduceEq,Int.reduceBEq,Int.reduceBNe,Nat.reduceSub,Nat.reduceEqDiff,Nat.reduceAdd,Nat.reduceMul,Nat.reduceLeDiff,Nat.reduceLT,Nat.reduceBEq,reduceCtorEq]|refine aj ?_|refine ag (λ hb=> ?_) (λ hb=> ?_)|(refine And.intro ?_ ?_;exact zI)|refine And.intro (λ hg=> ?_) (λ hg=> ?_)|exact zC|fail)
 .repeat'(first|(with_reducible first|refine aa _ _ ?_|refine ak ?_|refine ao ?_)|rw[af]|simp only[h,zY,Int.reduceEq,Int.reduceBEq,Int.reduceBNe,Nat.reduceSub,Nat.reduceEqDiff,Nat.reduceAdd,Nat.reduceMul,Nat.reduceLeDiff,Nat.reduceLT,Nat.reduceBEq,reduceCtorEq]|refine aj ?_|refine ag (λ hb=> ?_) (λ hb=> ?_)|(refine And.intro ?_ ?_;exact zI)|refine And.intro (λ hg=> ?_) (λ hg=> ?_)|exact zC|fail)
def gq (v:Int) (j:Nat):Int:=v.fdiv (2^(8*(8 - j)))
abbrev qR (v:Int) (j:Nat):List D:=(List.range 8).map λ m=>uD (if j≤m then j7 v m else 0)
theorem KT (v:Int) (k:Nat) (hk:k<8):(qR v (k+1)).set k (uD (j7 v k))=qR v k:=by
 apply List.ext_getElem
 .simp
 .intro m h1 h2;simp only[List.length_set,cF,qu]at h1;rw[List.getElem_set];simp only[List.getElem_map,List.getElem_range];split
  .rename_i e;subst e;rw[ay (Nat.le_refl _)]
  .rename_i e;by_cases h:k+1≤m
   .rw[ay h,ay (by omega)]
   .rw[ar h,ar (by omega)]
theorem vi (v:Int) (h:0≤v/\v<4611686018427387904):ae prog 78 [.f (ai v)] (λ r o=>r=[.one (.own 1 8 (aI (b7 v)) false)]/\o=[]):=by
 refine aR aO mixed (T:=Ty) (n:=18) func78 (c:=f78.body.getD .skip) rfl results78 ntmps78 call78 ?_;simp only[f78,Option.getD];have hv8:gq v 8=v:=by unfold gq;simp
 repeat'(first|(with_reducible first|refine aa _ _ ?_|refine ak ?_|refine ao ?_)|rw[af]|simp only[zY,Int.reduceEq,Int.reduceBEq,Int.reduceBNe,Nat.reduceSub,Nat.reduceEqDiff,Nat.reduceAdd,Nat.reduceMul,Nat.reduceLeDiff,Nat.reduceLT,Nat.reduceBEq,reduceCtorEq]|refine aj ?_|refine ag (λ hb=> ?_) (λ hb=> ?_)|(refine And.intro ?_ ?_;exact zI)|refine And.intro (λ hg=> ?_) (λ hg=> ?_)|exact zC|fail)
 refine gr (τ:=Nat) (λ j=>⟨[ai (gq v j),dd,dd, .one (.own ⟨3,1,1⟩ 0 8),ai ((j:Int) - 1),dd,dd,dd,dd,dd,dd,dd,dd,dd,dd,dd,dd,dd],[(5,⟨2,[]⟩),(3,{next:=2,l:=[none,some {e:=1,var:=false,fz:=false,sz:=1,cells:=(qR v j).map C.d}]})]⟩)
  (λ j=>j≤8) (λ _=>()) (λ j=>j) 8
  (Gh.canon [3] [] [] (by simp only[hv8,bN,bS,bW,bR,bT,bU,bV,bM,bO,bL,bH,bK,bX,D.v.injEq,bY];try(repeat'(first|rfl|omega|with_reducible apply And.intro))) rfl rfl) (Nat.le_refl _) ?_
 intro j hj0 hF K hK
 repeat(first|with_reducible refine aa _ _ ?_|with_reducible refine ax (aa _ _) ?_|with_reducible refine ax (ax (aa _ _)) ?_|with_reducible refine ax (ax (ax (aa _ _))) ?_|rw[af]|simp only[zB,Nat.reduceSub,Nat.reduceEqDiff,Nat.reduceAdd,Nat.reduceMul,Nat.reduceLeDiff,Nat.reduceLT,Nat.reduceBEq,reduceCtorEq])
 refine ag (λ hlt=> ?_) (λ hge=> ?_)
 .obtain⟨k,rfl⟩:∃k,j=k+1:=⟨j - 1,by simp at hlt;omega⟩;have hk:((((k+1:Nat):Int)) - 1)=(k:Int):=by omega
  have hge0:decide ((k:Int)≥0)=true:=by simp
  have w1:IntKind.i64.wrap ((k:Int) - 1)=(k:Int) - 1:=wrap64 (by omega) (by omega);have hb0:0≤gq v (k+1)/\gq v (k+1)≤v:=by unfold gq;rw[oX _ (nt (by decide))];exact⟨Int.ediv_nonneg h.1 (nt (by decide)),Int.ediv_le_self _ h.1⟩
  have w2:IntKind.u8.wrap (gq v (k+1))=j7 v k:=by unfold j7 gq;rw[show 8 - (k+1)=7 - k from by omega]
  have w3:(gq v (k+1)).fdiv (2^8)=gq v k:=by
   have p0:∀n:Nat,(0:Int)≤2^n:=λ n=>nt (by decide)
   unfold gq;rw[oX v (p0 (8*(8 - (k+1)))),oX _ (p0 8),oX v (p0 (8*(8 - k))),Int.ediv_ediv_of_nonneg (p0 _),←Int.pow_add,show 8*(8 - (k+1))+8=8*(8 - k) from by omega]
  have w4:IntKind.i64.wrap (gq v k)=gq v k:=by
   have:0≤gq v k/\gq v k≤v:=by unfold gq;rw[oX _ (nt (by decide))];exact⟨Int.ediv_nonneg h.1 (nt (by decide)),Int.ediv_le_self _ h.1⟩
   exact wrap64 (by omega) (by omega)
  have hset:((qR v (k+1)).map C.d).set k (C.d (uD (j7 v k)))=(qR v k).map C.d:=by rw[←KT v k (by omega),List.map_set]
  have hle:(k+1≤8)=True:=eN hj0;have h8:(if(8:Int)<0 then none else some (Value.int .i64 ((gq v (k+1)).fdiv (2^min (Int.toNat 8) IntKind.i64.bits))))=some (Value.int .i64 (gq v k)):=by rw[ar (by decide),show min (Int.toNat 8) IntKind.i64.bits=8 from rfl,w3]
  repeat'(first|(with_reducible first|refine aa _ _ ?_|refine ak ?_|refine ao ?_)|rw[af]|simp only[hk,w1,w2,h8,hset,qu,hle,gQ,zY,Int.reduceEq,Int.reduceBEq,Int.reduceBNe,Nat.reduceSub,Nat.reduceEqDiff,Nat.reduceAdd,Nat.reduceMul,Nat.reduceLeDiff,Nat.reduceLT,Nat.reduceBEq,reduceCtorEq]|refine aj ?_|refine ag (λ hb=> ?_) (λ hb=> ?_)|(refine And.intro ?_ ?_;exact zI)|refine And.intro (λ hg=> ?_) (λ hg=> ?_)|exact zC|fail)
  exact hK _ k (Gh.canon [3] [] [] zK rfl rfl) (by omega) rfl (by omega)
 .have hj:j=0:=by simp at hge;omega
  subst hj
  repeat'(first|(with_reducible first|refine aa _ _ ?_|refine ak ?_|refine ao ?_)|rw[af]|simp only[zY,Int.reduceEq,Int.reduceBEq,Int.reduceBNe,Nat.reduceSub,Nat.reduceEqDiff,Nat.reduceAdd,Nat.reduceMul,Nat.reduceLeDiff,Nat.reduceLT,Nat.reduceBEq,reduceCtorEq]|refine aj ?_|refine ag (λ hb=> ?_) (λ hb=> ?_)|(refine And.intro ?_ ?_;exact zI)|refine And.intro (λ hg=> ?_) (λ hg=> ?_)|exact zC|fail)
  rfl
theorem xn (r:cB) (h:r.held.length<2^30):ae prog 186 [.f (.agg r.aJ), .f (.agg r.aJ)] (λ x o=>x=[rb true]/\o=[]):=by
 refine aR aO mixed (T:=Ty) (n:=31) func186 (c:=f186.body.getD .skip) rfl results186 ntmps186 call186 ?_;simp only[f186,Option.getD];have hs:=IE r.held r.held h h;have:nG r.held r.held=true:=by
  unfold nG;rw[km,kh,iu];intro p hp;have:p.1=p.2:=by obtain⟨i,h1,h2⟩:=List.getElem_of_mem hp;rw[←h2,List.getElem_zip]
  rw[this,ku,km,km];rfl
 rw[this]at hs
 repeat'(first|(with_reducible first|refine aa _ _ ?_|refine ak ?_|refine ao ?_)|rw[af]|simp only[km,zY,Int.reduceEq,Int.reduceBEq,Int.reduceBNe,Nat.reduceSub,Nat.reduceEqDiff,Nat.reduceAdd,Nat.reduceMul,Nat.reduceLeDiff,Nat.reduceLT,Nat.reduceBEq,reduceCtorEq]|((first|((try refine aD ?_);apply aE)|(apply aG;intro _));(solve|exact(hs)|(refine ae.le (hs) ?_;exact zM)|fail);try case hn=>rfl)|refine aj ?_|refine ag (λ hb=> ?_) (λ hb=> ?_)|(refine And.intro ?_ ?_;exact zI)|refine And.intro (λ hg=> ?_) (λ hg=> ?_)|exact zC|fail)
theorem xf (m:cG) (h:m.cf.held.length<2^30):ae prog 148 [.f (.agg m.aJ), .f (.agg m.aJ)] (λ x o=>x=[rb true]/\o=[]):=by
 refine aR aO mixed (T:=Ty) (n:=24) func148 (c:=f148.body.getD .skip) rfl results148 ntmps148 call148 ?_;simp only[f148,Option.getD]
 repeat'(first|(with_reducible first|refine aa _ _ ?_|refine ak ?_|refine ao ?_)|rw[af]|simp only[km,zY,Int.reduceEq,Int.reduceBEq,Int.reduceBNe,Nat.reduceSub,Nat.reduceEqDiff,Nat.reduceAdd,Nat.reduceMul,Nat.reduceLeDiff,Nat.reduceLT,Nat.reduceBEq,reduceCtorEq]|((first|((try refine aD ?_);apply aE)|(apply aG;intro _));(solve|exact(xn m.cf h)|(refine ae.le (xn m.cf h) ?_;exact zM)|fail);try case hn=>rfl)|refine aj ?_|refine ag (λ hb=> ?_) (λ hb=> ?_)|(refine And.intro ?_ ?_;exact zI)|refine And.intro (λ hg=> ?_) (λ hg=> ?_)|exact zC|fail)
theorem Bx (m:cG):ae prog 110 [.f (.agg ((po m).map C.d))] (λ x o=>x=[.agg ((po m).map RO.d)]/\o=[]):=by
 refine aR aO mixed (T:=Ty) (n:=63) func110 (c:=f110.body.getD .skip) rfl results110 ntmps110 call110 ?_;simp only[f110,Option.getD]
 repeat'(first|(with_reducible first|refine aa _ _ ?_|refine ak ?_|refine ao ?_)|rw[af]|simp only[zY,Int.reduceEq,Int.reduceBEq,Int.reduceBNe,Nat.reduceSub,Nat.reduceEqDiff,Nat.reduceAdd,Nat.reduceMul,Nat.reduceLeDiff,Nat.reduceLT,Nat.reduceBEq,reduceCtorEq]|refine aj ?_|refine ag (λ hb=> ?_) (λ hb=> ?_)|(refine And.intro ?_ ?_;exact zI)|refine And.intro (λ hg=> ?_) (λ hg=> ?_)|exact zC|fail)
theorem zq (m:cG) (h:m.cf.held.length<2^30):ae prog 109 [.f (.agg (tR m)), .f (.agg (tR m))] (λ x o=>x=[rb true]/\o=[]):=by
 refine aR aO mixed (T:=Ty) (n:=66) func109 (c:=f109.body.getD .skip) rfl results109 ntmps109 call109 ?_;simp only[f109,Option.getD]
 repeat'(first|(with_reducible first|refine aa _ _ ?_|refine ak ?_|refine ao ?_)|rw[af]|simp only[km,zY,Int.reduceEq,Int.reduceBEq,Int.reduceBNe,Nat.reduceSub,Nat.reduceEqDiff,Nat.reduceAdd,Nat.reduceMul,Nat.reduceLeDiff,Nat.reduceLT,Nat.reduceBEq,reduceCtorEq]|((first|((try refine aD ?_);apply aE)|(apply aG;intro _));(solve|exact(xf m h)|exact(yd)|exact(zb)|exact(yP)|(refine ae.le (xf m h) ?_;exact zM)|(refine ae.le (yd) ?_;exact zM)|(refine ae.le (zb) ?_;exact zM)|(refine ae.le (yP) ?_;exact zM)|fail);try case hn=>rfl)|refine aj ?_|refine ag (λ hb=> ?_) (λ hb=> ?_)|(refine And.intro ?_ ?_;exact zI)|refine And.intro (λ hg=> ?_) (λ hg=> ?_)|exact zC|fail)
end Go.Proofs.YtiegkabcgokhkaaGreat
