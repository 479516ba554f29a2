import Derived.Test.YtiegkabcgokhkaaGreatOF
set_option maxHeartbeats 8000000
namespace Go.Proofs.YtiegkabcgokhkaaGreat
open Go.Pk Tryz
set_option maxRecDepth 100000
set_option linter.unusedSimpArgs false
set_option linter.unusedVariables false
structure Cm where
 kind:Int
 aF:Int
 name:ByteArray
abbrev Cm.enc (c:Cm):List D:=[iD c.kind,iD c.aF,sD c.name]
abbrev cH (l:List Cm):List D:=l.flatMap Cm.enc
theorem jZ {l:List Cm}:(cH l).length=l.length*3:=oG _ 3 (λ _=>rfl) l
structure e9 where
 c:cU
 id:Int
 aF:Int
 cW:Int
 asks:List Cm
 busy:Bool
 out:br
 first:Int
 iF:Bool
 last:Int
 seq:Int
 turn:Int
abbrev e9.ro (K:e9):List RO:=[.d (iD K.c.bw), .d (iD K.c.ey), .d (iD K.c.aV), .d (iD K.c.aT), .d (iD K.c.base), .d (iD K.c.cap), .d (iD K.c.fh), .d (iD K.c.wait), .d (iD K.c.fg), .d (iD K.c.eg), .d (iD K.c.b8),
 .d (iD K.id), .d (iD K.aF), .d (.v (.slice none 0 0)), .d (iD K.cW), .own 3 K.asks.length (cH K.asks) true, .d (bD K.busy),
 .d (iD K.out.bh), .d (iD K.out.seq), .d (iD K.out.kind), .d (iD K.out.aF), .d (sD K.out.name), .d (iD K.first), .d (bD K.iF), .d (iD K.last), .d (iD K.seq), .d (iD K.turn)]
abbrev e9.aJ (K:e9):List C:=[di K.c.bw,di K.c.ey,di K.c.aV,di K.c.aT,di K.c.base,di K.c.cap,di K.c.fh,di K.c.wait,di K.c.fg,di K.c.eg,di K.c.b8,
 di K.id,di K.aF, .d (.sl 0 []),di K.cW, .aJ K.asks.length (cH K.asks),db K.busy,
 di K.out.bh,di K.out.seq,di K.out.kind,di K.out.aF,dS K.out.name,di K.first,db K.iF,di K.last,di K.seq,di K.turn]
abbrev e9.at (K:e9):AV:= .one (.dZ K.aJ)
abbrev N0:AV:= .one (.d (.v (.pointer none)))
def qV (c:cU) (id:Int):e9:=⟨c,id,0,0,[],false,⟨0,0,0,0, .empty⟩,0,false,0,0,id % c.bw⟩
theorem Nu (c:cU) (id:Int) (hc:nm c) (hi:0≤id/\id<c.ey):gy prog 10 [.f (.agg (c.enc.map C.d)), .f (ai id)] [ri 0] (qV c id).ro:=by
 refine gy.gp (rfs:=[ri 0]) (l:=[.d (iD c.bw), .d (iD c.ey), .d (iD c.aV), .d (iD c.aT), .d (iD c.base), .d (iD c.cap), .d (iD c.fh), .d (iD c.wait), .d (iD c.fg), .d (iD c.eg), .d (iD c.b8),
  .d (iD id), .d (iD 0), .d (.v (.slice none 0 0)), .d (iD 0), .d (.v (.slice none 0 0)), .d (bD false),
  .d (iD 0), .d (iD 0), .d (iD 0), .d (iD 0), .d (sD .empty), .d (iD 0), .d (bD false), .d (iD 0), .d (iD 0), .d (iD (id % c.bw))]) ?_ cm (by simp[dv,eF,qV])
 refine Aj aO mixed (T:=Ty) (n:=27) func10 (c:=f10.body.getD .skip) rfl results10 ntmps10 call10 ?_;simp only[f10,Option.getD];have h1:decide (id<0)=false:=by simp;omega
 have h2:decide (id≥c.ey)=false:=by simp;omega
 have hr:=hc.r;have h0:c.bw≠0:=by omega
 have htm:id.tmod c.bw=id % c.bw:=nC hi.1;have hcl:=hc.cl;have hb1:id % c.bw<c.bw:=qH _ (by omega);have hb0:0≤id % c.bw:=qJ _ h0;have hw:IntKind.i64.wrap (id % c.bw)=id % c.bw:=wrap64 (by omega) (by omega)
 repeat'(first|(with_reducible first|refine aa _ _ ?_|refine ak ?_|refine ao ?_)|rw[af]|simp only[h1,h2,ar h0,htm,hw,xy,zT,nh,sE,zY,Int.reduceEq,Int.reduceBEq,Int.reduceBNe,Nat.reduceSub,Nat.reduceEqDiff,Nat.reduceAdd,Nat.reduceMul,Nat.reduceLeDiff,Nat.reduceLT,Nat.reduceBEq,reduceCtorEq]|((first|((try refine aD ?_);apply aE)|(apply aG;intro _));(solve|exact(l6 c hc)|(refine ae.le (l6 c hc) ?_;exact zM)|fail);try case hn=>rfl)|refine aj ?_|refine ag (λ hb=> ?_) (λ hb=> ?_)|(refine And.intro ?_ ?_;exact zI)|refine And.intro (λ hg=> ?_) (λ hg=> ?_)|exact zC|fail)
theorem Mi (c:cU) (id:Int) (hc:nm c) (hi:¬(0≤id/\id<c.ey)):ae prog 10 [.f (.agg (c.enc.map C.d)), .f (ai id)] (λ r o=>r=[.one (.d (.v (.pointer none))),ri 1]/\o=[]):=by
 refine aR aO mixed (T:=Ty) (n:=27) func10 (c:=f10.body.getD .skip) rfl results10 ntmps10 call10 ?_;simp only[f10,Option.getD];cases h1:decide (id<0)
 .have h2:decide (id≥c.ey)=true:=by simp at h1⊢;omega
  repeat'(first|(with_reducible first|refine aa _ _ ?_|refine ak ?_|refine ao ?_)|rw[af]|simp only[h1,h2,zY,Int.reduceEq,Int.reduceBEq,Int.reduceBNe,Nat.reduceSub,Nat.reduceEqDiff,Nat.reduceAdd,Nat.reduceMul,Nat.reduceLeDiff,Nat.reduceLT,Nat.reduceBEq,reduceCtorEq]|((first|((try refine aD ?_);apply aE)|(apply aG;intro _));(solve|exact(l6 c hc)|(refine ae.le (l6 c hc) ?_;exact zM)|fail);try case hn=>rfl)|refine aj ?_|refine ag (λ hb=> ?_) (λ hb=> ?_)|(refine And.intro ?_ ?_;exact zI)|refine And.intro (λ hg=> ?_) (λ hg=> ?_)|exact zC|fail)
 .repeat'(first|(with_reducible first|refine aa _ _ ?_|refine ak ?_|refine ao ?_)|rw[af]|simp only[h1,zY,Int.reduceEq,Int.reduceBEq,Int.reduceBNe,Nat.reduceSub,Nat.reduceEqDiff,Nat.reduceAdd,Nat.reduceMul,Nat.reduceLeDiff,Nat.reduceLT,Nat.reduceBEq,reduceCtorEq]|((first|((try refine aD ?_);apply aE)|(apply aG;intro _));(solve|exact(l6 c hc)|(refine ae.le (l6 c hc) ?_;exact zM)|fail);try case hn=>rfl)|refine aj ?_|refine ag (λ hb=> ?_) (λ hb=> ?_)|(refine And.intro ?_ ?_;exact zI)|refine And.intro (λ hg=> ?_) (λ hg=> ?_)|exact zC|fail)
def lx (s:ByteArray):Bool:=s.toList==(⟨#[]⟩:ByteArray).toList
def gz (kind:Int) (name:ByteArray):Bool:=if(kind==3||kind==4||kind==5)=true then dF name else kind==6&&lx name
def gm (K:e9) (kind:Int) (name:ByteArray):e9×Int:=
 if gz kind name=false then(K,1)else if K.asks.length≥4 then(K,5)else({K with asks:=K.asks++[⟨kind,0,name⟩]},0)
theorem aS {l:List Cm}:(cH l).take (l.length*3)=cH l:=dX (by rw[jZ];exact Nat.le_refl _)
theorem l7 {l:List Cm} {c:Cm}:cH (l++[c])=cH l++c.enc:=by simp[cH]
theorem NA (K:e9) (kind:Int) (name:ByteArray) (hs:name.size<2^62) (hL:K.asks.length≤4):ae prog 15 [.obj K.ro, .f (ai kind), .f (mI name)] (λ r o=>r=[ri (gm K kind name).2]/\o=[(gm K kind name).1.ro]):=by
 refine ae.gp ?_;refine aR aO mixed (T:=Ty) (n:=39) func15 (c:=f15.body.getD .skip) rfl results15 ntmps15 call15 ?_;simp only[f15,Option.getD];have hnm:=qi name hs;cases hk:(kind==3||kind==4||kind==5)
 .simp only[kU]at hk;obtain⟨⟨k3,k4⟩,k5⟩:=hk;cases k6:(kind==6)
  .have hne:gm K kind name=(K,1):=by rw[gm,ay (by simp[gz,k3,k4,k5,k6])]
   rw[hne]
   repeat'(first|(with_reducible first|refine aa _ _ ?_|refine ak ?_|refine ao ?_)|rw[af]|simp only[k3,k4,k5,k6,zY,Int.reduceEq,Int.reduceBEq,Int.reduceBNe,Nat.reduceSub,Nat.reduceEqDiff,Nat.reduceAdd,Nat.reduceMul,Nat.reduceLeDiff,Nat.reduceLT,Nat.reduceBEq,reduceCtorEq]|refine aj ?_|refine ag (λ hb=> ?_) (λ hb=> ?_)|(refine And.intro ?_ ?_;exact zI)|refine And.intro (λ hg=> ?_) (λ hg=> ?_)|exact zC|fail)
   exact⟨cm,dj⟩
  .cases he:lx name
   .have hne:gm K kind name=(K,1):=by rw[gm,ay (by simp[gz,k3,k4,k5,k6,he])]
    rw[hne];unfold lx at he
    repeat'(first|(with_reducible first|refine aa _ _ ?_|refine ak ?_|refine ao ?_)|rw[af]|simp only[k3,k4,k5,k6,he,zY,Int.reduceEq,Int.reduceBEq,Int.reduceBNe,Nat.reduceSub,Nat.reduceEqDiff,Nat.reduceAdd,Nat.reduceMul,Nat.reduceLeDiff,Nat.reduceLT,Nat.reduceBEq,reduceCtorEq]|refine aj ?_|refine ag (λ hb=> ?_) (λ hb=> ?_)|(refine And.intro ?_ ?_;exact zI)|refine And.intro (λ hg=> ?_) (λ hg=> ?_)|exact zC|fail)
    exact⟨cm,dj⟩
   .cases hf:decide (K.asks.length≥4)
    .have hne:gm K kind name=({K with asks:=K.asks++[⟨kind,0,name⟩]},0):=by rw[gm,ar (by simp[gz,k3,k4,k5,k6,he]),ar (by simpa using hf)]
     rw[hne];have hf2:decide ((K.asks.length:Int)≥4)=false:=by simp at hf⊢;omega
     have hle:(K.asks.length+1≤2^47)=True:=eN (by omega);unfold lx at he
     repeat'(first|(with_reducible first|refine aa _ _ ?_|refine ak ?_|refine ao ?_)|rw[af]|simp only[k3,k4,k5,k6,he,hf2,hle,zY,Int.reduceEq,Int.reduceBEq,Int.reduceBNe,Nat.reduceSub,Nat.reduceEqDiff,Nat.reduceAdd,Nat.reduceMul,Nat.reduceLeDiff,Nat.reduceLT,Nat.reduceBEq,reduceCtorEq]|refine aj ?_|refine ag (λ hb=> ?_) (λ hb=> ?_)|(refine And.intro ?_ ?_;exact zI)|refine And.intro (λ hg=> ?_) (λ hg=> ?_)|exact zC|fail)
     refine And.intro cm ?_;simp[eK,dv,eF,l7,aS]
    .have hne:gm K kind name=(K,5):=by rw[gm,ar (by simp[gz,k3,k4,k5,k6,he]),ay (by simpa using hf)]
     rw[hne];have hf2:decide ((K.asks.length:Int)≥4)=true:=by simp at hf⊢;omega
     unfold lx at he
     repeat'(first|(with_reducible first|refine aa _ _ ?_|refine ak ?_|refine ao ?_)|rw[af]|simp only[k3,k4,k5,k6,he,hf2,zY,Int.reduceEq,Int.reduceBEq,Int.reduceBNe,Nat.reduceSub,Nat.reduceEqDiff,Nat.reduceAdd,Nat.reduceMul,Nat.reduceLeDiff,Nat.reduceLT,Nat.reduceBEq,reduceCtorEq]|refine aj ?_|refine ag (λ hb=> ?_) (λ hb=> ?_)|(refine And.intro ?_ ?_;exact zI)|refine And.intro (λ hg=> ?_) (λ hg=> ?_)|exact zC|fail)
     exact⟨cm,dj⟩
 .cases hn:dF name
  .have hne:gm K kind name=(K,1):=by rw[gm,ay (by simp[gz,hk,hn])]
   rw[hne];rw[hn]at hnm;cases k3:(kind==3)
   .cases k4:(kind==4)
    .have k5:(kind==5)=true:=by rw[k3,k4]at hk;simpa using hk
     repeat'(first|(with_reducible first|refine aa _ _ ?_|refine ak ?_|refine ao ?_)|rw[af]|simp only[k3,k4,k5,zY,Int.reduceEq,Int.reduceBEq,Int.reduceBNe,Nat.reduceSub,Nat.reduceEqDiff,Nat.reduceAdd,Nat.reduceMul,Nat.reduceLeDiff,Nat.reduceLT,Nat.reduceBEq,reduceCtorEq]|((first|((try refine aD ?_);apply aE)|(apply aG;intro _));(solve|exact(hnm)|(refine ae.le (hnm) ?_;exact zM)|fail);try case hn=>rfl)|refine aj ?_|refine ag (λ hb=> ?_) (λ hb=> ?_)|(refine And.intro ?_ ?_;exact zI)|refine And.intro (λ hg=> ?_) (λ hg=> ?_)|exact zC|fail)
     exact⟨cm,dj⟩
    .repeat'(first|(with_reducible first|refine aa _ _ ?_|refine ak ?_|refine ao ?_)|rw[af]|simp only[k3,k4,zY,Int.reduceEq,Int.reduceBEq,Int.reduceBNe,Nat.reduceSub,Nat.reduceEqDiff,Nat.reduceAdd,Nat.reduceMul,Nat.reduceLeDiff,Nat.reduceLT,Nat.reduceBEq,reduceCtorEq]|((first|((try refine aD ?_);apply aE)|(apply aG;intro _));(solve|exact(hnm)|(refine ae.le (hnm) ?_;exact zM)|fail);try case hn=>rfl)|refine aj ?_|refine ag (λ hb=> ?_) (λ hb=> ?_)|(refine And.intro ?_ ?_;exact zI)|refine And.intro (λ hg=> ?_) (λ hg=> ?_)|exact zC|fail)
     exact⟨cm,dj⟩
   .repeat'(first|(with_reducible first|refine aa _ _ ?_|refine ak ?_|refine ao ?_)|rw[af]|simp only[k3,zY,Int.reduceEq,Int.reduceBEq,Int.reduceBNe,Nat.reduceSub,Nat.reduceEqDiff,Nat.reduceAdd,Nat.reduceMul,Nat.reduceLeDiff,Nat.reduceLT,Nat.reduceBEq,reduceCtorEq]|((first|((try refine aD ?_);apply aE)|(apply aG;intro _));(solve|exact(hnm)|(refine ae.le (hnm) ?_;exact zM)|fail);try case hn=>rfl)|refine aj ?_|refine ag (λ hb=> ?_) (λ hb=> ?_)|(refine And.intro ?_ ?_;exact zI)|refine And.intro (λ hg=> ?_) (λ hg=> ?_)|exact zC|fail)
    exact⟨cm,dj⟩
  .rw[hn]at hnm;cases hf:decide (K.asks.length≥4)
   .have hne:gm K kind name=({K with asks:=K.asks++[⟨kind,0,name⟩]},0):=by rw[gm,ar (by simp[gz,hk,hn]),ar (by simpa using hf)]
    rw[hne];have hf2:decide ((K.asks.length:Int)≥4)=false:=by simp at hf⊢;omega
    have hle:(K.asks.length+1≤2^47)=True:=eN (by omega);cases k3:(kind==3)
    .cases k4:(kind==4)
     .have k5:(kind==5)=true:=by rw[k3,k4]at hk;simpa using hk
      repeat'(first|(with_reducible first|refine aa _ _ ?_|refine ak ?_|refine ao ?_)|rw[af]|simp only[k3,k4,k5,hf2,hle,zY,Int.reduceEq,Int.reduceBEq,Int.reduceBNe,Nat.reduceSub,Nat.reduceEqDiff,Nat.reduceAdd,Nat.reduceMul,Nat.reduceLeDiff,Nat.reduceLT,Nat.reduceBEq,reduceCtorEq]|((first|((try refine aD ?_);apply aE)|(apply aG;intro _));(solve|exact(hnm)|(refine ae.le (hnm) ?_;exact zM)|fail);try case hn=>rfl)|refine aj ?_|refine ag (λ hb=> ?_) (λ hb=> ?_)|(refine And.intro ?_ ?_;exact zI)|refine And.intro (λ hg=> ?_) (λ hg=> ?_)|exact zC|fail)
      refine And.intro cm ?_;simp[eK,dv,eF,l7,aS]
     .repeat'(first|(with_reducible first|refine aa _ _ ?_|refine ak ?_|refine ao ?_)|rw[af]|simp only[k3,k4,hf2,hle,zY,Int.reduceEq,Int.reduceBEq,Int.reduceBNe,Nat.reduceSub,Nat.reduceEqDiff,Nat.reduceAdd,Nat.reduceMul,Nat.reduceLeDiff,Nat.reduceLT,Nat.reduceBEq,reduceCtorEq]|((first|((try refine aD ?_);apply aE)|(apply aG;intro _));(solve|exact(hnm)|(refine ae.le (hnm) ?_;exact zM)|fail);try case hn=>rfl)|refine aj ?_|refine ag (λ hb=> ?_) (λ hb=> ?_)|(refine And.intro ?_ ?_;exact zI)|refine And.intro (λ hg=> ?_) (λ hg=> ?_)|exact zC|fail)
      refine And.intro cm ?_;simp[eK,dv,eF,l7,aS]
    .repeat'(first|(with_reducible first|refine aa _ _ ?_|refine ak ?_|refine ao ?_)|rw[af]|simp only[k3,hf2,hle,zY,Int.reduceEq,Int.reduceBEq,Int.reduceBNe,Nat.reduceSub,Nat.reduceEqDiff,Nat.reduceAdd,Nat.reduceMul,Nat.reduceLeDiff,Nat.reduceLT,Nat.reduceBEq,reduceCtorEq]|((first|((try refine aD ?_);apply aE)|(apply aG;intro _));(solve|exact(hnm)|(refine ae.le (hnm) ?_;exact zM)|fail);try case hn=>rfl)|refine aj ?_|refine ag (λ hb=> ?_) (λ hb=> ?_)|(refine And.intro ?_ ?_;exact zI)|refine And.intro (λ hg=> ?_) (λ hg=> ?_)|exact zC|fail)
     refine And.intro cm ?_;simp[eK,dv,eF,l7,aS]
   .have hne:gm K kind name=(K,5):=by rw[gm,ar (by simp[gz,hk,hn]),ay (by simpa using hf)]
    rw[hne];have hf2:decide ((K.asks.length:Int)≥4)=true:=by simp at hf⊢;omega
    cases k3:(kind==3)
    .cases k4:(kind==4)
     .have k5:(kind==5)=true:=by rw[k3,k4]at hk;simpa using hk
      repeat'(first|(with_reducible first|refine aa _ _ ?_|refine ak ?_|refine ao ?_)|rw[af]|simp only[k3,k4,k5,hf2,zY,Int.reduceEq,Int.reduceBEq,Int.reduceBNe,Nat.reduceSub,Nat.reduceEqDiff,Nat.reduceAdd,Nat.reduceMul,Nat.reduceLeDiff,Nat.reduceLT,Nat.reduceBEq,reduceCtorEq]|((first|((try refine aD ?_);apply aE)|(apply aG;intro _));(solve|exact(hnm)|(refine ae.le (hnm) ?_;exact zM)|fail);try case hn=>rfl)|refine aj ?_|refine ag (λ hb=> ?_) (λ hb=> ?_)|(refine And.intro ?_ ?_;exact zI)|refine And.intro (λ hg=> ?_) (λ hg=> ?_)|exact zC|fail)
      exact⟨cm,dj⟩
     .repeat'(first|(with_reducible first|refine aa _ _ ?_|refine ak ?_|refine ao ?_)|rw[af]|simp only[k3,k4,hf2,zY,Int.reduceEq,Int.reduceBEq,Int.reduceBNe,Nat.reduceSub,Nat.reduceEqDiff,Nat.reduceAdd,Nat.reduceMul,Nat.reduceLeDiff,Nat.reduceLT,Nat.reduceBEq,reduceCtorEq]|((first|((try refine aD ?_);apply aE)|(apply aG;intro _));(solve|exact(hnm)|(refine ae.le (hnm) ?_;exact zM)|fail);try case hn=>rfl)|refine aj ?_|refine ag (λ hb=> ?_) (λ hb=> ?_)|(refine And.intro ?_ ?_;exact zI)|refine And.intro (λ hg=> ?_) (λ hg=> ?_)|exact zC|fail)
      exact⟨cm,dj⟩
    .repeat'(first|(with_reducible first|refine aa _ _ ?_|refine ak ?_|refine ao ?_)|rw[af]|simp only[k3,hf2,zY,Int.reduceEq,Int.reduceBEq,Int.reduceBNe,Nat.reduceSub,Nat.reduceEqDiff,Nat.reduceAdd,Nat.reduceMul,Nat.reduceLeDiff,Nat.reduceLT,Nat.reduceBEq,reduceCtorEq]|((first|((try refine aD ?_);apply aE)|(apply aG;intro _));(solve|exact(hnm)|(refine ae.le (hnm) ?_;exact zM)|fail);try case hn=>rfl)|refine aj ?_|refine ag (λ hb=> ?_) (λ hb=> ?_)|(refine And.intro ?_ ?_;exact zI)|refine And.intro (λ hg=> ?_) (λ hg=> ?_)|exact zC|fail)
     exact⟨cm,dj⟩
theorem MA (K:e9) (hL:K.asks.length<2^30):ae prog 23 [.f K.at] (λ r o=>r=[.one (.own 3 K.asks.length (cH K.asks) false)]/\o=[]):=by
 refine aR aO mixed (T:=Ty) (n:=10) func23 (c:=f23.body.getD .skip) rfl results23 ntmps23 call23 ?_;simp only[f23,Option.getD]
 repeat'(first|(with_reducible first|refine aa _ _ ?_|refine ak ?_|refine ao ?_)|rw[af]|simp only[zY,Int.reduceEq,Int.reduceBEq,Int.reduceBNe,Nat.reduceSub,Nat.reduceEqDiff,Nat.reduceAdd,Nat.reduceMul,Nat.reduceLeDiff,Nat.reduceLT,Nat.reduceBEq,reduceCtorEq]|((first|((try refine aD ?_);apply aE)|(apply aG;intro _));(solve|exact(rj K.asks.length (cH K.asks) jZ (by omega))|(refine ae.le (rj K.asks.length (cH K.asks) jZ (by omega)) ?_;exact zM)|fail);try case hn=>rfl)|refine aj ?_|refine ag (λ hb=> ?_) (λ hb=> ?_)|(refine And.intro ?_ ?_;exact zI)|refine And.intro (λ hg=> ?_) (λ hg=> ?_)|exact zC|fail)
theorem MU (K:e9) (h:K.busy=true):ae prog 12 [.f K.at] (λ r o=>r=[.agg (K.out.enc.map RO.d),rb true]/\o=[]):=by
 refine aR aO mixed (T:=Ty) (n:=18) func12 (c:=f12.body.getD .skip) rfl results12 ntmps12 call12 ?_;simp only[f12,Option.getD]
 repeat'(first|(with_reducible first|refine aa _ _ ?_|refine ak ?_|refine ao ?_)|rw[af]|simp only[h,zY,Int.reduceEq,Int.reduceBEq,Int.reduceBNe,Nat.reduceSub,Nat.reduceEqDiff,Nat.reduceAdd,Nat.reduceMul,Nat.reduceLeDiff,Nat.reduceLT,Nat.reduceBEq,reduceCtorEq]|refine aj ?_|refine ag (λ hb=> ?_) (λ hb=> ?_)|(refine And.intro ?_ ?_;exact zI)|refine And.intro (λ hg=> ?_) (λ hg=> ?_)|exact zC|fail)
theorem I7 (K:e9) (now:Int) (a:Cm) (l:List Cm) (hs:K.aF=0) (ha:K.asks=a::l) (hl:l.length<2^30) (he:(a.kind==5||a.kind==6)=false):
  ae prog 38 [.f K.at, .f (ai now)] (λ r o=>r=[.agg [.d (iD 1), .d (iD 0), .d (sD .empty)],rb true]/\o=[]):=by
 refine aR aO mixed (T:=Ty) (n:=85) func38 (c:=f38.body.getD .skip) rfl results38 ntmps38 call38 ?_;simp only[f38,Option.getD];have hen:=vy a.kind;rw[he]at hen;have h1:decide ((K.asks.length:Int)>0)=true:=by rw[ha];simp
 have h2:(K.aF==0)=true:=by rw[hs];rfl
 have hat:cH K.asks=iD a.kind::iD a.aF::sD a.name::cH l:=by rw[ha];rfl
 have hrg:(0:Int)<K.asks.length:=by simpa using h1
 have hl3:((cH l).length+1+1+1=K.asks.length*3)=True:=eN (by rw[jZ,ha,de];omega);have hagg:∀(Z:List Nat) (r:Rs) (xs ys:List AV),eb Z r (K.at::xs) (K.at::ys)=eb Z r xs ys:=λ Z r xs ys=>u9 rfl rfl
 repeat'(first|(with_reducible first|refine aa _ _ ?_|refine ak ?_|refine ao ?_)|rw[af]|simp only[h1,h2,zY,Int.reduceEq,Int.reduceBEq,Int.reduceBNe,Nat.reduceSub,Nat.reduceEqDiff,Nat.reduceAdd,Nat.reduceMul,Nat.reduceLeDiff,Nat.reduceLT,Nat.reduceBEq,reduceCtorEq]|refine aj ?_|refine ag (λ hb=> ?_) (λ hb=> ?_)|(refine And.intro ?_ ?_;exact zI)|refine And.intro (λ hg=> ?_) (λ hg=> ?_)|exact zC|fail)
 refine fJ Ty prog (τ:=Unit) (λ _=>⟨[K.at,dd,dd,dd, .one (.ptr ⟨4,0,1⟩ 0),dd,dd,dd,dd,dd,dd,dd,dd,dd,dd,dd,dd,dd,dd,dd,dd,dd,dd,dd,dd,dd,dd,dd,dd,dd,dd,dd,dd,dd,dd,dd,dd,dd,dd,dd,dd,dd,dd,dd,dd,dd,dd,dd,dd,dd,dd,dd,dd,dd,dd,dd,dd,dd,dd,dd,dd,dd,dd,dd,dd,dd,dd,dd,dd,dd,dd,dd,dd,dd,dd,dd,dd,dd,dd,dd,dd,dd,dd,dd,dd],[(4,{next:=2,l:=[some {e:=1,var:=true,fz:=false,sz:=0,cells:=[di 0,di 0,dS .empty]},none,none,none]})]⟩) (λ _=>True) (λ _=>0) ()
  (Gh.canon [4] [] [] (by simp only[hagg,bN,bS,bW,bR,bT,bU,bV,bM,bO,bL,bH,bK,bX,D.v.injEq,bY];try(repeat'(first|rfl|omega|with_reducible apply And.intro))) rfl rfl) trivial ?_
 intro _ _ Kx hK
 repeat'(first|(with_reducible first|refine aa _ _ ?_|refine ak ?_|refine ao ?_)|rw[af]|simp only[h1,h2,gB,hat,hl3,zY,Int.reduceEq,Int.reduceBEq,Int.reduceBNe,Nat.reduceSub,Nat.reduceEqDiff,Nat.reduceAdd,Nat.reduceMul,Nat.reduceLeDiff,Nat.reduceLT,Nat.reduceBEq,reduceCtorEq]|((first|((try refine aD ?_);apply aE)|(apply aG;intro _));(solve|exact(hen)|(refine ae.le (hen) ?_;exact zM)|fail);try case hn=>rfl)|refine aj ?_|refine ag (λ hb=> ?_) (λ hb=> ?_)|(refine And.intro ?_ ?_;exact zI)|refine And.intro (λ hg=> ?_) (λ hg=> ?_)|exact zC|fail)
abbrev BV (K:e9):List D:=[iD K.turn, .sl (iN K.out).length (iN K.out)]
theorem MW (K:e9) (now:Int) (hr:K.out.ok) (hm:br.may K.out=true):
  ae prog 37 [.obj K.ro, .f (ai now)] (λ r o=>r=[.one (.own 2 1 (BV K) false)]/\o=[({K with iF:=true,last:=now}:e9).ro]):=by
 refine ae.gp ?_;refine aR aO mixed (T:=Ty) (n:=30) func37 (c:=f37.body.getD .skip) rfl results37 ntmps37 call37 ?_;simp only[f37,Option.getD];have hp:=uE K.out hr hm
 repeat'(first|(with_reducible first|refine aa _ _ ?_|refine ak ?_|refine ao ?_)|rw[af]|simp only[ml,zY,Int.reduceEq,Int.reduceBEq,Int.reduceBNe,Nat.reduceSub,Nat.reduceEqDiff,Nat.reduceAdd,Nat.reduceMul,Nat.reduceLeDiff,Nat.reduceLT,Nat.reduceBEq,reduceCtorEq]|((first|((try refine aD ?_);apply aE)|(apply aG;intro _));(solve|exact(hp)|(refine ae.le (hp) ?_;exact zM)|fail);try case hn=>rfl)|refine aj ?_|refine ag (λ hb=> ?_) (λ hb=> ?_)|(refine And.intro ?_ ?_;exact zI)|refine And.intro (λ hg=> ?_) (λ hg=> ?_)|exact zC|fail)
 exact⟨rfl,cm,dj⟩
def Oj (K:e9) (now:Int):e9:={K with turn:=(K.turn+1) % K.c.bw,iF:=true,last:=now}
def vQ (K:e9) (now:Int):e9:={K with seq:=K.seq+1,busy:=true,first:=now,out:=⟨K.id,K.seq+1,1,0, .empty⟩,iF:=true,last:=now}
theorem MO (K:e9) (now:Int) (a:Cm) (l:List Cm) (h0:0≤now/\now≤2305843009213693952) (hs:K.aF=0) (ha:K.asks=a::l) (hl:l.length<2^30) (he:(a.kind==5||a.kind==6)=false)
  (hb:K.busy=false) (hq:0≤K.seq/\K.seq<2^60) (hid:0≤K.id/\K.id<8):
  ae prog 13 [.obj K.ro, .f (ai now)] (λ r o=>r=[.one (.own 2 1 (BV (vQ K now)) false)]/\o=[(vQ K now).ro]):=by
 refine ae.gp ?_;refine aR aO mixed (T:=Ty) (n:=82) func13 (c:=f13.body.getD .skip) rfl results13 ntmps13 call13 ?_;simp only[f13,Option.getD];have h3:IntKind.i64.wrap (K.seq+1)=K.seq+1:=wrap64 (by omega) (by omega);have hmr:br.may ⟨K.id,K.seq+1,1,0, .empty⟩=true:=by
  have hH:ep=2305843009213693952:=rfl;have h1:ej 1 0 .empty=true:=by unfold ej;simp
  unfold br.may;simp only[h1,hH,iQ,cu,eo];omega
 have hrk:(⟨K.id,K.seq+1,1,0, .empty⟩:br).ok:=⟨by simp only[i64];omega,by simp only[i64];omega,by simp only[i64];omega,by simp only[i64];omega,by simp only;decide⟩;have hsd:=MW {K with seq:=K.seq+1,busy:=true,first:=now,out:=⟨K.id,K.seq+1,1,0, .empty⟩} now hrk hmr;have hnx:=I7 {K with busy:=false} now a l hs ha hl he
 repeat'(first|(with_reducible first|refine aa _ _ ?_|refine ak ?_|refine ao ?_)|rw[af]|simp only[hb,h3,aS,zY,Int.reduceEq,Int.reduceBEq,Int.reduceBNe,Nat.reduceSub,Nat.reduceEqDiff,Nat.reduceAdd,Nat.reduceMul,Nat.reduceLeDiff,Nat.reduceLT,Nat.reduceBEq,reduceCtorEq]|((first|((try refine aD ?_);apply aE)|(apply aG;intro _));(solve|exact(fy now h0)|exact(hnx)|(refine ae.le (fy now h0) ?_;exact zM)|(refine ae.le (hnx) ?_;exact zM)|fail);try case hn=>rfl)|refine aj ?_|refine ag (λ hb=> ?_) (λ hb=> ?_)|(refine And.intro ?_ ?_;exact zI)|refine And.intro (λ hg=> ?_) (λ hg=> ?_)|exact zC|fail)
 refine jc (mv:= ?mv2) (aJ:= ?le2) 0 ?ha2 (hsd) ?hb2 ?hc2
 case ha2=>(try simp only[zB,du,Nat.reduceSub,Nat.reduceEqDiff,Nat.reduceAdd,Nat.reduceMul,Nat.reduceLeDiff,Nat.reduceLT,Nat.reduceBEq,reduceCtorEq]);exact rfl
 case hb2=>(try simp only[zB,bA,Nat.reduceSub,Nat.reduceEqDiff,Nat.reduceAdd,Nat.reduceMul,Nat.reduceLeDiff,Nat.reduceLT,Nat.reduceBEq,reduceCtorEq]);repeat'(first|rfl|trivial|omega|with_reducible refine And.intro ?_ ?_)
 show aP _ _ _ _ _ _ _ _
 repeat'(first|(with_reducible first|refine aa _ _ ?_|refine ak ?_|refine ao ?_)|rw[af]|simp only[zY,Int.reduceEq,Int.reduceBEq,Int.reduceBNe,Nat.reduceSub,Nat.reduceEqDiff,Nat.reduceAdd,Nat.reduceMul,Nat.reduceLeDiff,Nat.reduceLT,Nat.reduceBEq,reduceCtorEq]|refine aj ?_|refine ag (λ hb=> ?_) (λ hb=> ?_)|(refine And.intro ?_ ?_;exact zI)|refine And.intro (λ hg=> ?_) (λ hg=> ?_)|exact zC|fail)
 exact⟨rfl,cm,dj⟩
abbrev tK:br:=⟨0,0,0,0, .empty⟩
def iS (bs:List Int) (p:Int):Cm×Int×Int:=
 if(bx bs p).2.2≠0 then(⟨0,0, .empty⟩,0,(bx bs p).2.2)else
 let s:=cD bs (bx bs p).2.1
 if s.2.2≠0 then(⟨0,0, .empty⟩,0,s.2.2)else
 let a:=dm bs s.2.1 12
 if a.2.2≠0 then(⟨0,0, .empty⟩,0,a.2.2)else
 if ej (bx bs p).1 s.1 a.1=false then(⟨0,0, .empty⟩,0,4)else(⟨(bx bs p).1,s.1,a.1⟩,a.2.1,0)
theorem JY (bs:List Int) (p:Int) (h:fF bs) (hp:i64 p):
  ae prog 89 [.f (bE bs.length (aI bs)), .f (ai p)] (λ r o=>r=[.agg ((iS bs p).1.enc.map RO.d),ri (iS bs p).2.1,ri (iS bs p).2.2]/\o=[]):=by
 refine aR aO mixed (T:=Ty) (n:=52) func89 (c:=f89.body.getD .skip) rfl results89 ntmps89 call89 ?_;simp only[f89,Option.getD];have h1:=mY bs p h hp;have h2:=qa bs (bx bs p).2.1 h (jB h.l mO);have h3:=A7 bs (cD bs (bx bs p).2.1).2.1 12 h (jB h.l oh);have hl:=h.l;have hz:=uw (bs:=bs) (p:=(cD bs (bx bs p).2.1).2.1) (most:=12);unfold iS;simp only;obtain⟨b,hb⟩:∃b,b=bx bs p:=⟨_,rfl⟩;rw[←hb]at h1 h2 h3 hz⊢;obtain⟨s,hs⟩:∃s,s=cD bs b.2.1:=⟨_,rfl⟩;rw[←hs]at h2 h3 hz⊢;obtain⟨a,ha⟩:∃a,a=dm bs s.2.1 12:=⟨_,rfl⟩;rw[←ha]at h3 hz⊢;have h4:=sT b.1 s.1 a.1 (by omega);cases e1:(b.2.2 !=0)
 .rw[ar (by simpa using e1)];cases e2:(s.2.2 !=0)
  .rw[ar (by simpa using e2)];cases e3:(a.2.2 !=0)
   .rw[ar (by simpa using e3)];cases e7:ej b.1 s.1 a.1
    .rw[e7]at h4;rw[ay rfl]
     repeat'(first|(with_reducible first|refine aa _ _ ?_|refine ak ?_|refine ao ?_)|rw[af]|simp only[e1,e2,e3,zY,Int.reduceEq,Int.reduceBEq,Int.reduceBNe,Nat.reduceSub,Nat.reduceEqDiff,Nat.reduceAdd,Nat.reduceMul,Nat.reduceLeDiff,Nat.reduceLT,Nat.reduceBEq,reduceCtorEq]|((first|((try refine aD ?_);apply aE)|(apply aG;intro _));(solve|exact(h1)|exact(h2)|exact(h3)|exact(h4)|(refine ae.le (h1) ?_;exact zM)|(refine ae.le (h2) ?_;exact zM)|(refine ae.le (h3) ?_;exact zM)|(refine ae.le (h4) ?_;exact zM)|fail);try case hn=>rfl)|refine aj ?_|refine ag (λ hb=> ?_) (λ hb=> ?_)|(refine And.intro ?_ ?_;exact zI)|refine And.intro (λ hg=> ?_) (λ hg=> ?_)|exact zC|fail)
    .rw[e7]at h4;rw[ar (by simp)]
     repeat'(first|(with_reducible first|refine aa _ _ ?_|refine ak ?_|refine ao ?_)|rw[af]|simp only[e1,e2,e3,zY,Int.reduceEq,Int.reduceBEq,Int.reduceBNe,Nat.reduceSub,Nat.reduceEqDiff,Nat.reduceAdd,Nat.reduceMul,Nat.reduceLeDiff,Nat.reduceLT,Nat.reduceBEq,reduceCtorEq]|((first|((try refine aD ?_);apply aE)|(apply aG;intro _));(solve|exact(h1)|exact(h2)|exact(h3)|exact(h4)|(refine ae.le (h1) ?_;exact zM)|(refine ae.le (h2) ?_;exact zM)|(refine ae.le (h3) ?_;exact zM)|(refine ae.le (h4) ?_;exact zM)|fail);try case hn=>rfl)|refine aj ?_|refine ag (λ hb=> ?_) (λ hb=> ?_)|(refine And.intro ?_ ?_;exact zI)|refine And.intro (λ hg=> ?_) (λ hg=> ?_)|exact zC|fail)
   .rw[ay (by simpa using e3)]
    repeat'(first|(with_reducible first|refine aa _ _ ?_|refine ak ?_|refine ao ?_)|rw[af]|simp only[e1,e2,e3,zY,Int.reduceEq,Int.reduceBEq,Int.reduceBNe,Nat.reduceSub,Nat.reduceEqDiff,Nat.reduceAdd,Nat.reduceMul,Nat.reduceLeDiff,Nat.reduceLT,Nat.reduceBEq,reduceCtorEq]|((first|((try refine aD ?_);apply aE)|(apply aG;intro _));(solve|exact(h1)|exact(h2)|exact(h3)|(refine ae.le (h1) ?_;exact zM)|(refine ae.le (h2) ?_;exact zM)|(refine ae.le (h3) ?_;exact zM)|fail);try case hn=>rfl)|refine aj ?_|refine ag (λ hb=> ?_) (λ hb=> ?_)|(refine And.intro ?_ ?_;exact zI)|refine And.intro (λ hg=> ?_) (λ hg=> ?_)|exact zC|fail)
  .rw[ay (by simpa using e2)]
   repeat'(first|(with_reducible first|refine aa _ _ ?_|refine ak ?_|refine ao ?_)|rw[af]|simp only[e1,e2,zY,Int.reduceEq,Int.reduceBEq,Int.reduceBNe,Nat.reduceSub,Nat.reduceEqDiff,Nat.reduceAdd,Nat.reduceMul,Nat.reduceLeDiff,Nat.reduceLT,Nat.reduceBEq,reduceCtorEq]|((first|((try refine aD ?_);apply aE)|(apply aG;intro _));(solve|exact(h1)|exact(h2)|(refine ae.le (h1) ?_;exact zM)|(refine ae.le (h2) ?_;exact zM)|fail);try case hn=>rfl)|refine aj ?_|refine ag (λ hb=> ?_) (λ hb=> ?_)|(refine And.intro ?_ ?_;exact zI)|refine And.intro (λ hg=> ?_) (λ hg=> ?_)|exact zC|fail)
 .rw[ay (by simpa using e1)]
  repeat'(first|(with_reducible first|refine aa _ _ ?_|refine ak ?_|refine ao ?_)|rw[af]|simp only[e1,zY,Int.reduceEq,Int.reduceBEq,Int.reduceBNe,Nat.reduceSub,Nat.reduceEqDiff,Nat.reduceAdd,Nat.reduceMul,Nat.reduceLeDiff,Nat.reduceLT,Nat.reduceBEq,reduceCtorEq]|((first|((try refine aD ?_);apply aE)|(apply aG;intro _));(solve|exact(h1)|(refine ae.le (h1) ?_;exact zM)|fail);try case hn=>rfl)|refine aj ?_|refine ag (λ hb=> ?_) (λ hb=> ?_)|(refine And.intro ?_ ?_;exact zI)|refine And.intro (λ hg=> ?_) (λ hg=> ?_)|exact zC|fail)
def nT (bs:List Int) (p:Int):br×Int×Int:=
 if(bx bs p).2.2≠0 then(tK,0,(bx bs p).2.2)else
 let s:=cD bs (bx bs p).2.1
 if s.2.2≠0 then(tK,0,s.2.2)else
 let c:=iS bs s.2.1
 if c.2.2≠0 then(tK,0,c.2.2)else
 if br.may ⟨(bx bs p).1,s.1,c.1.kind,c.1.aF,c.1.name⟩=false then(tK,0,4)else(⟨(bx bs p).1,s.1,c.1.kind,c.1.aF,c.1.name⟩,c.2.1,0)
theorem AW {bs:List Int} (h:fF bs) {p:Int}:0≤(cD bs p).1/\(cD bs p).1<4611686018427387904:=by
 unfold cD;split
 .simp
 .split
  .rename_i h2;exact⟨(uB λ c hc=>h.b c (List.mem_of_mem_drop (qw hc))).1,h2⟩
  .simp
theorem Jc {bs:List Int} (h:fF bs) {p:Int}:(0≤(iS bs p).2.1/\(iS bs p).2.1≤bs.length)/\i64 (iS bs p).1.kind/\i64 (iS bs p).1.aF/\(iS bs p).1.name.size≤bs.length:=by
 have h0:(0≤(((⟨0,0, .empty⟩:Cm),(0:Int),(0:Int))).2.1/\(((⟨0,0, .empty⟩:Cm),(0:Int),(0:Int))).2.1≤bs.length)/\i64 (⟨0,0, .empty⟩:Cm).kind/\i64 (⟨0,0, .empty⟩:Cm).aF/\(⟨0,0, .empty⟩:Cm).name.size≤bs.length:=⟨by simp,⟨by decide,by decide⟩,⟨by decide,by decide⟩,by simp⟩;unfold iS;simp only;split
 .exact h0
 split
 .exact h0
 split
 .exact h0
 split
 .exact h0
 .have h1:=rR h (p:=p);have h2:=AW h (p:=(bx bs p).2.1);unfold bp at h1;exact⟨yb h,by unfold i64;simp only;omega,by unfold i64;simp only;omega,uw⟩
theorem Kh (bs:List Int) (p:Int) (h:fF bs) (hp:i64 p):
  ae prog 61 [.f (bE bs.length (aI bs)), .f (ai p)] (λ r o=>r=[.agg ((nT bs p).1.enc.map RO.d),ri (nT bs p).2.1,ri (nT bs p).2.2]/\o=[]):=by
 refine aR aO mixed (T:=Ty) (n:=52) func61 (c:=f61.body.getD .skip) rfl results61 ntmps61 call61 ?_;simp only[f61,Option.getD];have h1:=mY bs p h hp;have h2:=qa bs (bx bs p).2.1 h (jB h.l mO);have h3:=JY bs (cD bs (bx bs p).2.1).2.1 h (jB h.l oh);have hl:=h.l;have hz:=(Jc h (p:=(cD bs (bx bs p).2.1).2.1)).2;have hx:=rR h (p:=p);have hy:=AW h (p:=(bx bs p).2.1);unfold bp at hx;unfold nT;simp only;obtain⟨b,hb⟩:∃b,b=bx bs p:=⟨_,rfl⟩;rw[←hb]at h1 h2 h3 hz hx hy⊢;obtain⟨s,hs⟩:∃s,s=cD bs b.2.1:=⟨_,rfl⟩;rw[←hs]at h2 h3 hz hy⊢;obtain⟨a,ha⟩:∃a,a=iS bs s.2.1:=⟨_,rfl⟩;rw[←ha]at h3 hz⊢;have h4:=uT ⟨b.1,s.1,a.1.kind,a.1.aF,a.1.name⟩ ⟨by unfold i64;simp only;omega,by unfold i64;simp only;omega,hz.1,hz.2.1,by have:=hz.2.2;simp only;omega⟩;cases e1:(b.2.2 !=0)
 .rw[ar (by simpa using e1)];cases e2:(s.2.2 !=0)
  .rw[ar (by simpa using e2)];cases e3:(a.2.2 !=0)
   .rw[ar (by simpa using e3)];cases e7:br.may ⟨b.1,s.1,a.1.kind,a.1.aF,a.1.name⟩
    .rw[e7]at h4;rw[ay rfl]
     repeat'(first|(with_reducible first|refine aa _ _ ?_|refine ak ?_|refine ao ?_)|rw[af]|simp only[e1,e2,e3,zY,Int.reduceEq,Int.reduceBEq,Int.reduceBNe,Nat.reduceSub,Nat.reduceEqDiff,Nat.reduceAdd,Nat.reduceMul,Nat.reduceLeDiff,Nat.reduceLT,Nat.reduceBEq,reduceCtorEq]|((first|((try refine aD ?_);apply aE)|(apply aG;intro _));(solve|exact(h1)|exact(h2)|exact(h3)|exact(h4)|(refine ae.le (h1) ?_;exact zM)|(refine ae.le (h2) ?_;exact zM)|(refine ae.le (h3) ?_;exact zM)|(refine ae.le (h4) ?_;exact zM)|fail);try case hn=>rfl)|refine aj ?_|refine ag (λ hb=> ?_) (λ hb=> ?_)|(refine And.intro ?_ ?_;exact zI)|refine And.intro (λ hg=> ?_) (λ hg=> ?_)|exact zC|fail)
    .rw[e7]at h4;rw[ar (by simp)]
     repeat'(first|(with_reducible first|refine aa _ _ ?_|refine ak ?_|refine ao ?_)|rw[af]|simp only[e1,e2,e3,zY,Int.reduceEq,Int.reduceBEq,Int.reduceBNe,Nat.reduceSub,Nat.reduceEqDiff,Nat.reduceAdd,Nat.reduceMul,Nat.reduceLeDiff,Nat.reduceLT,Nat.reduceBEq,reduceCtorEq]|((first|((try refine aD ?_);apply aE)|(apply aG;intro _));(solve|exact(h1)|exact(h2)|exact(h3)|exact(h4)|(refine ae.le (h1) ?_;exact zM)|(refine ae.le (h2) ?_;exact zM)|(refine ae.le (h3) ?_;exact zM)|(refine ae.le (h4) ?_;exact zM)|fail);try case hn=>rfl)|refine aj ?_|refine ag (λ hb=> ?_) (λ hb=> ?_)|(refine And.intro ?_ ?_;exact zI)|refine And.intro (λ hg=> ?_) (λ hg=> ?_)|exact zC|fail)
   .rw[ay (by simpa using e3)]
    repeat'(first|(with_reducible first|refine aa _ _ ?_|refine ak ?_|refine ao ?_)|rw[af]|simp only[e1,e2,e3,zY,Int.reduceEq,Int.reduceBEq,Int.reduceBNe,Nat.reduceSub,Nat.reduceEqDiff,Nat.reduceAdd,Nat.reduceMul,Nat.reduceLeDiff,Nat.reduceLT,Nat.reduceBEq,reduceCtorEq]|((first|((try refine aD ?_);apply aE)|(apply aG;intro _));(solve|exact(h1)|exact(h2)|exact(h3)|(refine ae.le (h1) ?_;exact zM)|(refine ae.le (h2) ?_;exact zM)|(refine ae.le (h3) ?_;exact zM)|fail);try case hn=>rfl)|refine aj ?_|refine ag (λ hb=> ?_) (λ hb=> ?_)|(refine And.intro ?_ ?_;exact zI)|refine And.intro (λ hg=> ?_) (λ hg=> ?_)|exact zC|fail)
  .rw[ay (by simpa using e2)]
   repeat'(first|(with_reducible first|refine aa _ _ ?_|refine ak ?_|refine ao ?_)|rw[af]|simp only[e1,e2,zY,Int.reduceEq,Int.reduceBEq,Int.reduceBNe,Nat.reduceSub,Nat.reduceEqDiff,Nat.reduceAdd,Nat.reduceMul,Nat.reduceLeDiff,Nat.reduceLT,Nat.reduceBEq,reduceCtorEq]|((first|((try refine aD ?_);apply aE)|(apply aG;intro _));(solve|exact(h1)|exact(h2)|(refine ae.le (h1) ?_;exact zM)|(refine ae.le (h2) ?_;exact zM)|fail);try case hn=>rfl)|refine aj ?_|refine ag (λ hb=> ?_) (λ hb=> ?_)|(refine And.intro ?_ ?_;exact zI)|refine And.intro (λ hg=> ?_) (λ hg=> ?_)|exact zC|fail)
 .rw[ay (by simpa using e1)]
  repeat'(first|(with_reducible first|refine aa _ _ ?_|refine ak ?_|refine ao ?_)|rw[af]|simp only[e1,zY,Int.reduceEq,Int.reduceBEq,Int.reduceBNe,Nat.reduceSub,Nat.reduceEqDiff,Nat.reduceAdd,Nat.reduceMul,Nat.reduceLeDiff,Nat.reduceLT,Nat.reduceBEq,reduceCtorEq]|((first|((try refine aD ?_);apply aE)|(apply aG;intro _));(solve|exact(h1)|(refine ae.le (h1) ?_;exact zM)|fail);try case hn=>rfl)|refine aj ?_|refine ag (λ hb=> ?_) (λ hb=> ?_)|(refine And.intro ?_ ?_;exact zI)|refine And.intro (λ hg=> ?_) (λ hg=> ?_)|exact zC|fail)
theorem pa:ae prog 67 [.f (ai 0)] (λ r o=>r=[]/\o=[]):=by
 refine aR aO mixed (T:=Ty) (n:=6) func67 (c:=f67.body.getD .skip) rfl results67 ntmps67 call67 ?_;simp only[f67,Option.getD]
 repeat'(first|(with_reducible first|refine aa _ _ ?_|refine ak ?_|refine ao ?_)|rw[af]|simp only[zY,Int.reduceEq,Int.reduceBEq,Int.reduceBNe,Nat.reduceSub,Nat.reduceEqDiff,Nat.reduceAdd,Nat.reduceMul,Nat.reduceLeDiff,Nat.reduceLT,Nat.reduceBEq,reduceCtorEq]|refine aj ?_|refine ag (λ hb=> ?_) (λ hb=> ?_)|(refine And.intro ?_ ?_;exact zI)|refine And.intro (λ hg=> ?_) (λ hg=> ?_)|exact zC|fail)
theorem AG (bs:List Int) (p:Int) (h:fF bs) (hp:i64 p) (h0:(bx bs p).2.2=0):
  ae prog 60 [.obj (jo bs.length (aI bs) p)] (λ r o=>r=[ri (bx bs p).1]/\o=[jo bs.length (aI bs) (bx bs p).2.1]):=by
 refine aR aO mixed (T:=Ty) (n:=26) func60 (c:=f60.body.getD .skip) rfl results60 ntmps60 call60 ?_;simp only[f60,Option.getD];have h1:=mY bs p h hp;rw[h0]at h1
 repeat'(first|(with_reducible first|refine aa _ _ ?_|refine ak ?_|refine ao ?_)|rw[af]|simp only[zY,Int.reduceEq,Int.reduceBEq,Int.reduceBNe,Nat.reduceSub,Nat.reduceEqDiff,Nat.reduceAdd,Nat.reduceMul,Nat.reduceLeDiff,Nat.reduceLT,Nat.reduceBEq,reduceCtorEq]|((first|((try refine aD ?_);apply aE)|(apply aG;intro _));(solve|exact(h1)|exact(pa)|(refine ae.le (h1) ?_;exact zM)|(refine ae.le (pa) ?_;exact zM)|fail);try case hn=>rfl)|refine aj ?_|refine ag (λ hb=> ?_) (λ hb=> ?_)|(refine And.intro ?_ ?_;exact zI)|refine And.intro (λ hg=> ?_) (λ hg=> ?_)|exact zC|fail)
def gU (s:ByteArray):List Int:=(s.size:Int)::s.data.toList.map λ b=>(b.toNat:Int)
theorem BG (s:ByteArray):im s=aI (gU s):=by simp[im,gU,aI,s7]
theorem lp (s:ByteArray):(gU s).length=1+s.size:=by simp[gU,oE,iz]
def oI (g:bt):List Int:=gU g.name++b7 g.token
def fb (l:List bt):List Int:=l.flatMap oI
def dz (r:cB):List Int:=[r.code]++(b7 r.aF++([r.ahead,(r.held.length:Int)]++fb r.held))
def dk (m:cG):List Int:=[m.bh]++(b7 m.seq++dz m.cf)
def jN (k n:Int) (s:ByteArray):List Int:=[k]++(b7 n++gU s)
def jS (r:br):List Int:=[r.bh]++(b7 r.seq++jN r.kind r.aF r.name)
def dW (m:cG):List Int:=[2]++dk m
def jC (r:br):List Int:=[1]++jS r
theorem ef (n:Int):(b7 n).length=8:=rfl
theorem Be (r:br):iN r=aI (jC r):=by simp[iN,jC,jJ,jS,gH,jN,BG,aI]
theorem Je (g:bt):(oI g).length=9+g.name.size:=by simp[oI,lp,ef];omega
theorem rr:∀{l:List bt} {k:Nat},(∀g∈l,g.name.size≤k)->(fb l).length≤l.length*(9+k)
 |[],k,_=>by simp[fb]
 |g::l,k,h=>by
  have h1:=rr (l:=l) (k:=k) λ x hx=>h x (by simp[hx])
  have h2:=h g (by simp);rw[fb,fm,b6,de,Je,cQ];unfold fb at h1;omega
theorem LY (b:UInt8):bp (b.toNat:Int):=⟨by omega,by have:=b.toNat_lt;omega⟩
theorem JF (v:Int):bp (IntKind.u8.wrap v):=by
 have e:IntKind.u8.wrap v=v % 256:=by unfold IntKind.wrap;simp[IntKind.bits,IntKind.signed]
 rw[e];unfold bp;omega
theorem ql (v:Int):∀x∈b7 v,bp x:=by intro x hx;obtain⟨k,_,rfl⟩:=kM.1 hx;exact JF _
theorem Bl (s:ByteArray) (h:s.size≤255):∀x∈gU s,bp x:=by
 intro x hx;rcases cL.1 hx with rfl|hx
 .exact⟨by omega,by omega⟩
 .obtain⟨b,_,rfl⟩:=kM.1 hx;exact LY b
theorem Kv (v:Int):IntKind.u8.wrap v=v % 256:=by unfold IntKind.wrap;simp[IntKind.bits,IntKind.signed]
theorem J9 (v:Int) (k:Nat):j7 v k=v / (2^(8*(7 - k))) % 256:=by rw[j7,Kv,oX _ (nt (by decide))]
theorem M' (v:Int) (h:0≤v/\v<4611686018427387904):er (b7 v)=v:=by
 have e:b7 v=[v / 72057594037927936 % 256,v / 281474976710656 % 256,v / 1099511627776 % 256,v / 4294967296 % 256,v / 16777216 % 256,v / 65536 % 256,v / 256 % 256,v % 256]:=by show List.map (j7 v) [0,1,2,3,4,5,6,7]=_;simp only[cJ,ff,J9];simp
 rw[e];simp only[er,nE,List.foldl_nil];have d1:v / 65536=v / 256 / 256:=by omega
 have d2:v / 16777216=v / 65536 / 256:=by omega
 have d3:v / 4294967296=v / 16777216 / 256:=by omega
 have d4:v / 1099511627776=v / 4294967296 / 256:=by omega
 have d5:v / 281474976710656=v / 1099511627776 / 256:=by omega
 have d6:v / 72057594037927936=v / 281474976710656 / 256:=by omega
 have t0:0*256+v / 72057594037927936 % 256=v / 72057594037927936:=by omega
 have t1:v / 72057594037927936*256+v / 281474976710656 % 256=v / 281474976710656:=by rw[d6];omega
 have t2:v / 281474976710656*256+v / 1099511627776 % 256=v / 1099511627776:=by rw[d5];omega
 have t3:v / 1099511627776*256+v / 4294967296 % 256=v / 4294967296:=by rw[d4];omega
 have t4:v / 4294967296*256+v / 16777216 % 256=v / 16777216:=by rw[d3];omega
 have t5:v / 16777216*256+v / 65536 % 256=v / 65536:=by rw[d2];omega
 have t6:v / 65536*256+v / 256 % 256=v / 256:=by rw[d1];omega
 have t7:v / 256*256+v % 256=v:=by omega
 rw[t0,t1,t2,t3,t4,t5,t6,t7]
theorem iH {bs a rest:List Int} {p:Nat} (h:bs.drop p=a++rest):bs.drop (p+a.length)=rest:=by rw[←List.drop_drop,h,List.drop_left]
theorem vE {bs a rest:List Int} {p:Nat} (h:bs.drop p=a++rest) (ha:a≠[]):p+a.length≤bs.length:=by have:=congrArg List.length h;rw[jE,b6]at this;have:0<a.length:=List.length_pos_iff.2 ha;omega
theorem sd {n p k:Nat} (h:p+k≤n):eS n (p:Int) (k:Int)=false:=by unfold eS;simp;omega
theorem l9 {bs:List Int} {p:Nat} {x:Int} {rest:List Int} (h:bs.drop p=[x]++rest):bx bs p=(x,((p+1:Nat):Int),0):=by
 have h1:=vE h (by simp);simp only[gD]at h1;rw[bx,ar (by rw[show(1:Int)=((1:Nat):Int) from rfl,sd h1];simp),gQ];have:bs.getD p 0=x:=by have:=congrArg (λ l=>l[0]?) h;simp only[kR,eV,List.singleton_append,bZ]at this;rw[fC,this];rfl
 rw[this];simp
theorem qe {bs:List Int} {p:Nat} {v:Int} {rest:List Int} (h:bs.drop p=b7 v++rest) (hv:0≤v/\v<4611686018427387904):cD bs p=(v,((p+8:Nat):Int),0):=by
 have h1:=vE h (by intro h;have:=congrArg List.length h;rw[ef]at this;simp at this);rw[ef]at h1;have h2:(bs.drop p).take 8=b7 v:=by rw[h];exact List.take_left' (ef v)
 rw[cD,ar (by rw[show(8:Int)=((8:Nat):Int) from rfl,sd h1];simp),gQ,h2,M' v hv,ay hv.2];simp
theorem Js (s:ByteArray):qD (s.data.toList.map λ b=>(b.toNat:Int))=s:=by
 unfold qD;rw[oW];have:(λ n:Int=>UInt8.ofNat n.toNat)∘(λ b:UInt8=>(b.toNat:Int))=id:=by funext b;simp
 rw[this,List.map_id]
theorem AR {bs:List Int} {p:Nat} {s:ByteArray} {most:Int} {rest:List Int} (h:bs.drop p=gU s++rest) (hs:(s.size:Int)≤most):dm bs p most=(s,((p+(1+s.size):Nat):Int),0):=by
 have h1:=vE h (by simp[gU]);rw[lp]at h1;have hg:bs.getD p 0=(s.size:Int):=by have:=congrArg (λ l=>l[0]?) h;simp only[kR,eV,gU,eD,bZ]at this;rw[fC,this];rfl
 have h2:(bs.drop (p+1)).take s.size=s.data.toList.map λ b=>(b.toNat:Int):=by rw[←List.drop_drop,h,gU,eD,nF,gB];exact List.take_left' (by simp[oE])
 have hs1:=sd (n:=bs.length) (p:=p) (k:=1) (by omega);have hs2:=sd (n:=bs.length) (p:=p+1) (k:=s.size) (by omega);rw[Int.natCast_add]at hs2;simp only[Int.ofNat_one,Int.natCast_one]at hs1 hs2;rw[dm,ar (by rw[hs1];simp),gQ,hg,ar (by simpa using hs),ar (by rw[hs2];simp),gQ,h2,Js];simp;omega
theorem xW {bs:List Int}:∀{l:List bt} {p:Nat} {acc:List bt} {rest:List Int},bs.drop p=fb l++rest->(∀g∈l,g.name.size≤12/\0≤g.token/\g.token<4611686018427387904)->
  fK bs l.length p acc=(acc++l,((p+(fb l).length:Nat):Int),0)
 |[],p,acc,rest,h,_=>by simp[fK,fb]
 |g::l,p,acc,rest,h,hg=>by
  obtain⟨g1,g2⟩:=hg g (by simp);have h1:bs.drop p=gU g.name++(b7 g.token++(fb l++rest)):=by rw[h];simp[fb,oI]
  have e1:=AR h1 (most:=12) (by omega);have h2:=iH h1;rw[lp]at h2;have e2:=qe h2 g2;have h3:=iH h2;rw[ef]at h3;have ih:=xW (l:=l) (acc:=acc++[g]) h3 λ x hx=>hg x (by simp[hx])
  rw[de,fK,e1];simp only;rw[e2];simp only[gw,iw,eB];rw[show({name:=g.name,token:=g.token}:bt)=g from rfl,ih];have:(fb (g::l)).length=1+g.name.size+8+(fb l).length:=by simp[fb,oI,lp,ef];omega
  rw[this,jg];simp;omega
theorem iY {r:cB} (h:dR r=true):(0≤r.code/\r.code≤12)/\(0≤r.aF/\r.aF≤2305843009213693952)/\(0≤r.ahead/\r.ahead≤3)/\r.held.length≤4/\fN (gP r.held) 0 r.held=true:=by unfold dR at h;have hH:ep=2305843009213693952:=rfl;simp only[cu,jF,kU,iP,hH]at h;obtain⟨⟨h1,h2⟩,h3⟩:=h;refine⟨by omega,by omega,by omega,by omega,h3⟩
theorem yA {α:Type} {q:Nat->α->Bool}:∀{l:List α} {i:Nat},fN q i l=true->∀x∈l,∃k,q k x=true
 |[],_,_,x,hx=>by cases hx
 |a::l,i,h,x,hx=>by
  rw[fN]at h;split at h
  .rename_i hq;rcases cL.1 hx with rfl|hx
   .exact⟨i,hq⟩
   .exact yA h x hx
  .cases h
theorem mK {r:cB} (h:dR r=true):∀g∈r.held,g.name.size≤12/\0≤g.token/\g.token<4611686018427387904:=by
 intro g hg;obtain⟨k,hk⟩:=yA (iY h).2.2.2.2 g hg;unfold gP at hk;have hH:ep=2305843009213693952:=rfl;simp only[jF,kU,iP,hH,Bool.not_eq_false']at hk;obtain⟨⟨⟨h1,h2⟩,h3⟩,h4⟩:=hk;have:dF g.name=true:=by simpa using h1
 unfold dF at this;simp only[cu,eo]at this;omega
theorem Ka {bs:List Int} {r:cB} {p:Nat} {rest:List Int} (h:bs.drop p=dz r++rest) (hr:dR r=true):jz bs p=(r,((p+(dz r).length:Nat):Int),0):=by
 obtain⟨f1,f2,f3,f4,f5⟩:=iY hr;have h1:bs.drop p=[r.code]++(b7 r.aF++([r.ahead]++([(r.held.length:Int)]++(fb r.held++rest)))):=by rw[h];simp[dz]
 have e1:=l9 h1;have h2:=iH h1;have e2:=qe (p:=p+[r.code].length) h2 (by omega);have h3:=iH h2;rw[ef]at h3;have e3:=l9 h3;have h4:=iH h3;have e4:=l9 h4;have h5:=iH h4;have e5:=xW (acc:=[]) h5 (mK hr);simp only[gD]at e2 e3 e4 e5;rw[jz,e1];simp only[gw,iw,eB];rw[e2];simp only[gw,iw,eB];rw[e3];simp only[gw,iw,eB];rw[e4];simp only[gw,iw,eB,gQ];rw[e5];simp only[gw,iw,eB,eJ];rw[ar (by omega),show(⟨r.code,r.aF,r.ahead,r.held⟩:cB)=r from rfl,ar (by rw[hr];simp)];have:(dz r).length=1+8+1+1+(fb r.held).length:=by simp[dz,ef];omega
 rw[this];simp;omega
theorem lX {m:cG} (h:dQ m=true):(0≤m.bh/\m.bh<8)/\(1≤m.seq/\m.seq≤2305843009213693952)/\dR m.cf=true:=by unfold dQ at h;have hH:ep=2305843009213693952:=rfl;simp only[cu,eo,hH]at h;exact⟨by omega,by omega,h.2⟩
theorem Ju {bs:List Int} {m:cG} {p:Nat} {rest:List Int} (h:bs.drop p=dk m++rest) (hm:dQ m=true):m7 bs p=(m,((p+(dk m).length:Nat):Int),0):=by
 obtain⟨f1,f2,f3⟩:=lX hm;have h1:bs.drop p=[m.bh]++(b7 m.seq++(dz m.cf++rest)):=by rw[h];simp[dk]
 have e1:=l9 h1;have h2:=iH h1;have e2:=qe (p:=p+[m.bh].length) h2 (by omega);have h3:=iH h2;rw[ef]at h3;have e3:=Ka h3 f3;simp only[gD]at e2 e3;rw[m7,e1];simp only[gw,iw,eB];rw[e2];simp only[gw,iw,eB];rw[e3];simp only[gw,iw,eB];rw[show(⟨m.bh,m.seq,m.cf⟩:cG)=m from rfl,ar (by rw[hm];simp)];have:(dk m).length=1+8+(dz m.cf).length:=by simp[dk,ef];omega
 rw[this];simp;omega
theorem MD {bs:List Int} {c:Cm} {p:Nat} {rest:List Int} (h:bs.drop p=jN c.kind c.aF c.name++rest) (hm:ej c.kind c.aF c.name=true):iS bs p=(c,((p+(jN c.kind c.aF c.name).length:Nat):Int),0):=by
 obtain⟨f1,f2,f3,f4,f5⟩:=mN hm;have h1:bs.drop p=[c.kind]++(b7 c.aF++(gU c.name++rest)):=by rw[h];simp[jN]
 have e1:=l9 h1;have h2:=iH h1;have e2:=qe (p:=p+[c.kind].length) h2 (by omega);have h3:=iH h2;rw[ef]at h3;have e3:=AR h3 (most:=12) (by omega);simp only[gD]at e2 e3;rw[iS,e1];simp only[gw,iw,eB];rw[e2];simp only[gw,iw,eB];rw[e3];simp only[gw,iw,eB];rw[ar (by rw[hm];simp)];have:(jN c.kind c.aF c.name).length=1+8+(1+c.name.size):=by simp[jN,ef,lp];omega
 rw[this];simp;omega
theorem ud {r:br} (h:br.may r=true):(0≤r.bh/\r.bh<8)/\(1≤r.seq/\r.seq≤2305843009213693952)/\ej r.kind r.aF r.name=true:=by unfold br.may at h;have hH:ep=2305843009213693952:=rfl;simp only[cu,eo,hH]at h;exact⟨by omega,by omega,h.2⟩
theorem L5 {bs:List Int} {r:br} {p:Nat} {rest:List Int} (h:bs.drop p=jS r++rest) (hm:br.may r=true):nT bs p=(r,((p+(jS r).length:Nat):Int),0):=by
 obtain⟨f1,f2,f3⟩:=ud hm;have h1:bs.drop p=[r.bh]++(b7 r.seq++(jN r.kind r.aF r.name++rest)):=by rw[h];simp[jS]
 have e1:=l9 h1;have h2:=iH h1;have e2:=qe (p:=p+[r.bh].length) h2 (by omega);have h3:=iH h2;rw[ef]at h3;have e3:=MD (c:=⟨r.kind,r.aF,r.name⟩) h3 f3;simp only[gD]at e2 e3;rw[nT,e1];simp only[gw,iw,eB];rw[e2];simp only[gw,iw,eB];rw[e3];simp only[gw,iw,eB];rw[ar (by rw[show(⟨r.bh,r.seq,r.kind,r.aF,r.name⟩:br)=r from rfl,hm];simp)];have:(jS r).length=1+8+(jN r.kind r.aF r.name).length:=by simp[jS,ef];omega
 rw[this];simp;omega
theorem Jh {l:List bt} {i:Nat} (hi:i<l.length):fb (l.take (i+1))=fb (l.take i)++(gU l[i].name++b7 l[i].token):=by rw[List.take_succ_eq_append_getElem hi,fb,List.flatMap_append];simp[fb,oI]
def lE (r:cB):List Int:=[r.code]++(b7 r.aF++[r.ahead,(r.held.length:Int)])
def cK (r:cB) (i:Nat):List Int:=lE r++fb (r.held.take i)
theorem rW {r:cB} {i:Nat} (hi:i<r.held.length):cK r (i+1)=(cK r i++gU r.held[i].name)++b7 r.held[i].token:=by rw[cK,Jh hi,cK];simp
theorem rX {r:cB}:cK r 0=lE r:=by simp[cK,fb]
theorem AY {r:cB}:cK r r.held.length=dz r:=by simp[cK,lE,dz]
theorem pQ (r:cB):(lE r).length=11:=by simp[lE,ef]
theorem I1 (r:cB) (h:dR r=true):ae prog 106 [.f (.agg r.aJ)] (λ x o=>x=[.one (.own 1 (dz r).length (aI (dz r)) false),ri 0]/\o=[]):=by
 obtain⟨f1,f2,f3,f4,f5⟩:=iY h;have hgr:=mK h;refine aR aO mixed (T:=Ty) (n:=63) func106 (c:=f106.body.getD .skip) rfl results106 ntmps106 call106 ?_;simp only[f106,Option.getD];have hmy:=rn r ⟨by omega,λ g hg=>by have:=(hgr g hg).1;omega⟩;rw[h]at hmy;have hpn:=pJ r.aF (by omega);have w1:IntKind.u8.wrap r.code=r.code:=hC (by omega) (by omega);have w2:IntKind.u8.wrap r.ahead=r.ahead:=hC (by omega) (by omega);have w3:IntKind.u8.wrap (r.held.length:Int)=r.held.length:=hC (by omega) (by omega);have hcc:ae prog 105 [.f (al 3 [.sl 1 (aI [r.code]), .sl 8 (aI (b7 r.aF)), .sl 2 (aI [r.ahead,(r.held.length:Int)])])] (λ x o=>x=[.one (.own 1 11 (aI (lE r)) false)]/\o=[]):=by
  have hc:=rL [aI [r.code],aI (b7 r.aF),aI [r.ahead,(r.held.length:Int)]] (by simp) (λ l hl=>by
   simp only[cL,kY,kS]at hl;rcases hl with rfl|rfl|rfl
   .simp
   .rw[iI];decide
   .simp)
  rw[show [aI [r.code],aI (b7 r.aF),aI [r.ahead,(r.held.length:Int)]].flatten=aI (lE r) from by simp[lE,aI]]at hc;rw[show(aI (lE r)).length=11 from by rw[cF,pQ]]at hc;exact hc
 have t1:(aI (b7 r.aF)).take 8=aI (b7 r.aF):=dX (by rw[iI];decide);have t2:cX (sub 0 2 1 [C.d (uD r.ahead),C.d (uD (r.held.length:Int))])=some [uD r.ahead,uD (r.held.length:Int)]:=rfl
 repeat'(first|(with_reducible first|refine aa _ _ ?_|refine ak ?_|refine ao ?_)|rw[af]|simp only[t1,t2,w1,w2,w3,zY,Int.reduceEq,Int.reduceBEq,Int.reduceBNe,Nat.reduceSub,Nat.reduceEqDiff,Nat.reduceAdd,Nat.reduceMul,Nat.reduceLeDiff,Nat.reduceLT,Nat.reduceBEq,reduceCtorEq]|((first|((try refine aD ?_);apply aE)|(apply aG;intro _));(solve|exact(hmy)|exact(hpn)|exact(hcc)|(refine ae.le (hmy) ?_;exact zM)|(refine ae.le (hpn) ?_;exact zM)|(refine ae.le (hcc) ?_;exact zM)|fail);try case hn=>rfl)|refine aj ?_|refine ag (λ hb=> ?_) (λ hb=> ?_)|(refine And.intro ?_ ?_;exact zI)|refine And.intro (λ hg=> ?_) (λ hg=> ?_)|exact zC|fail)
 refine gr (τ:=Nat) (λ i=>⟨[dd, .one (.ptr ⟨1,0,1⟩ 0),dd,dd,dd,dd, .one (.own ⟨6,1,1⟩ 0 (cK r i).length),dd,dd,dd,dd,dd,dd,dd,dd,dd,dd,dd,dd,dd,dd,dd,dd,dd,dd,dd,dd,dd,dd,dd,dd,dd,dd,dd,dd,dd,dd,dd,al r.held.length (ch r.held),ai r.held.length,ai i,dd,dd,dd,dd,dd,dd,dd,dd,dd,dd,dd,dd,dd,dd,dd,dd,dd,dd,dd,dd,dd,dd],[(1,{next:=2,l:=[some {e:=1,var:=true,fz:=false,sz:=0,cells:=[di r.code,di r.aF,di r.ahead, .aJ r.held.length (ch r.held)]},none,none,none,none]}),(19,⟨2,[]⟩),(4,⟨2,[]⟩),(25,⟨2,[]⟩),(34,⟨2,[]⟩),(35,⟨2,[]⟩),(36,⟨2,[]⟩),(6,{next:=2,l:=[none,some {e:=1,var:=false,fz:=false,sz:=1,cells:=(aI (cK r i)).map C.d}]}),(8,⟨2,[]⟩),(9,⟨2,[]⟩),(11,⟨2,[]⟩),(47,⟨2,[]⟩),(53,⟨2,[]⟩),(58,⟨2,[]⟩),(60,⟨2,[]⟩)]⟩)
  (λ i=>i≤r.held.length) (λ _=>()) (λ i=>r.held.length - i) 0
  (Gh.canon [1,6] [8,9,11,47,53,58,60] [] (by simp only[rX,pQ,bN,bS,bW,bR,bT,bU,bV,bM,bO,bL,bH,bK,bX,D.v.injEq,bY];try(repeat'(first|rfl|omega|with_reducible apply And.intro))) rfl (by rw[rX];rfl)) (dA _) ?_
 intro i hi0 hF K hK
 repeat(first|with_reducible refine aa _ _ ?_|with_reducible refine ax (aa _ _) ?_|with_reducible refine ax (ax (aa _ _)) ?_|with_reducible refine ax (ax (ax (aa _ _))) ?_|rw[af]|simp only[zB,Nat.reduceSub,Nat.reduceEqDiff,Nat.reduceAdd,Nat.reduceMul,Nat.reduceLeDiff,Nat.reduceLT,Nat.reduceBEq,reduceCtorEq])
 refine ag (λ hlt=> ?_) (λ hge=> ?_)
 .have hi:i<r.held.length:=by simpa using hlt
  have hat:=gL hi;have hw:=fv hi (by omega);have hg:=hgr _ (ix hi);have hpt:=yj r.held[i].name (by omega);have hpm:=pJ r.held[i].token hg.2;have hlb:(cK r i).length≤11+4*21:=by
   rw[cK,b6,pQ];have:=rr (l:=r.held.take i) (k:=12) λ g hx=>(hgr g (qw hx)).1
   have:(r.held.take i).length≤4:=by rw[gR];omega
   omega
  have hle:((cK r i).length+(1+r.held[i].name.size)≤2^47)=True:=eN (by omega);have hle2:((cK r i).length+(1+r.held[i].name.size)+8≤2^47)=True:=eN (by omega);have k1:(im r.held[i].name).take (1+r.held[i].name.size)=im r.held[i].name:=dX (by rw[mS];exact Nat.le_refl _);have k2:(aI (b7 r.held[i].token)).take 8=aI (b7 r.held[i].token):=dX (by rw[iI];decide);have k3:(aI (cK r i)).take (cK r i).length=aI (cK r i):=dX (by rw[cF];exact Nat.le_refl _);have k4:(aI (cK r i)++im r.held[i].name).take ((cK r i).length+(1+r.held[i].name.size))=aI (cK r i)++im r.held[i].name:=dX (by rw[b6,cF,mS];exact Nat.le_refl _);have hsl:(cK r (i+1)).length=(cK r i).length+(1+r.held[i].name.size)+8:=by rw[rW hi,b6,b6,lp,ef]
  repeat'(first|(with_reducible first|refine aa _ _ ?_|refine ak ?_|refine ao ?_)|rw[af]|simp only[hat,eD,eJ,en,hle,hle2,k1,k2,k3,k4,mS,cF,ef,zY,Int.reduceEq,Int.reduceBEq,Int.reduceBNe,Nat.reduceSub,Nat.reduceEqDiff,Nat.reduceAdd,Nat.reduceMul,Nat.reduceLeDiff,Nat.reduceLT,Nat.reduceBEq,reduceCtorEq]|((first|((try refine aD ?_);apply aE)|(apply aG;intro _));(solve|exact(hpt)|exact(hpm)|(refine ae.le (hpt) ?_;exact zM)|(refine ae.le (hpm) ?_;exact zM)|fail);try case hn=>rfl)|refine aj ?_|refine ag (λ hb=> ?_) (λ hb=> ?_)|(refine And.intro ?_ ?_;exact zI)|refine And.intro (λ hg=> ?_) (λ hg=> ?_)|exact zC|fail)
  exact hK _ (i+1) (Gh.canon [1,6] [] [] (by simp only[hw,hsl,bN,bS,bW,bR,bT,bU,bV,bM,bO,bL,bH,bK,bX,D.v.injEq,bY];try(repeat'(first|rfl|omega|with_reducible apply And.intro))) rfl (by rw[rW hi,BG];simp only[aI,List.map_append];rfl)) hi rfl (by omega)
 .have hi:i=r.held.length:=by
   have:¬(i:Int)<r.held.length:=by simpa using hge
   omega
  subst hi
  repeat'(first|(with_reducible first|refine aa _ _ ?_|refine ak ?_|refine ao ?_)|rw[af]|simp only[zY,Int.reduceEq,Int.reduceBEq,Int.reduceBNe,Nat.reduceSub,Nat.reduceEqDiff,Nat.reduceAdd,Nat.reduceMul,Nat.reduceLeDiff,Nat.reduceLT,Nat.reduceBEq,reduceCtorEq]|refine aj ?_|refine ag (λ hb=> ?_) (λ hb=> ?_)|(refine And.intro ?_ ?_;exact zI)|refine And.intro (λ hg=> ?_) (λ hg=> ?_)|exact zC|fail)
  rw[AY]
end Go.Proofs.YtiegkabcgokhkaaGreat
