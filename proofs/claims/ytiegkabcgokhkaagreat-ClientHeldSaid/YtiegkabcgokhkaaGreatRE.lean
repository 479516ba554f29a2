import Derived.Test.YtiegkabcgokhkaaGreatOD
set_option maxHeartbeats 8000000
namespace Go.Proofs.YtiegkabcgokhkaaGreat
open Go.Pk Tryz
set_option maxRecDepth 100000
set_option linter.unusedSimpArgs false
set_option linter.unusedVariables false
theorem l8 {l:List Int} {i:Nat} (hi:i<l.length):(aI l).drop i=uD (l.getD i 0)::aI (l.drop (i+1)):=by rw[←lF,kn hi,fC,eC hi];rfl
theorem eG {l:List Int}:(aI l).length=l.length:=by simp
theorem Kf {c:cU} {i:Nat} {n:Int} (e:i=0):ga c i n={c with bw:=nW.getD (n % 6).toNat 0}:=by subst e;rfl
theorem KK {c:cU} {i:Nat} {n:Int} (e:i=1):ga c i n={c with ey:=1+n % 5}:=by subst e;rfl
theorem J3 {c:cU} {i:Nat} {n:Int} (e:i=2):ga c i n={c with base:=1+n % 20}:=by subst e;rfl
theorem Kb {c:cU} {i:Nat} {n:Int} (e:i=3):ga c i n={c with cap:=c.base+n % 60}:=by subst e;rfl
theorem JX {c:cU} {i:Nat} {n:Int} (e:i=4):ga c i n={c with fh:=1+n % 6}:=by subst e;rfl
theorem JS {c:cU} {i:Nat} {n:Int} (e:i=5):ga c i n={c with wait:=n % 4}:=by subst e;rfl
theorem Kz {c:cU} {i:Nat} {n:Int} (e:i=6):ga c i n={c with fg:=1+n % 9}:=by subst e;rfl
theorem KJ {c:cU} {i:Nat} {n:Int} (e:i=7):ga c i n={c with eg:=1+n % 9}:=by subst e;rfl
theorem J2 {c:cU} {i:Nat} {n:Int} (e:i=8):ga c i n={c with b8:=1+n % 12}:=by subst e;rfl
theorem KH {c:cU} {i:Nat} {n:Int} (e:i=9):ga c i n={c with aV:=1+n}:=by subst e;rfl
theorem Jx {c:cU} {i:Nat} {n:Int} (e:i=10):ga c i n={c with aT:=n % 201}:=by subst e;rfl
theorem KD {m:Nat} (hm6:m<6):List.drop m [di 3,di 1,di 5,di 3,di 7,di 3]=di (nW.getD m 0)::List.drop (m+1) [di 3,di 1,di 5,di 3,di 7,di 3]:=by rcases(show m=0∨m=1∨m=2∨m=3∨m=4∨m=5 by omega)with h|h|h|h|h|h<;>rw[h]<;>rfl
theorem MY (ns:List Int) (hl:ns.length<2^60) (hn:∀n∈ns,bp n):ae prog 11 [.f (al ns.length (aI ns))] (λ r o=>r=[.agg ((tE ns).enc.map RO.d)]/\o=[]):=by
 refine aR aO mixed (T:=Ty) (n:=89) func11 (c:=f11.body.getD .skip) rfl results11 ntmps11 call11 ?_;simp only[f11,Option.getD]
 repeat'(first|(with_reducible first|refine aa _ _ ?_|refine ak ?_|refine ao ?_)|rw[af]|simp only[zY,Int.reduceEq,Int.reduceBEq,Int.reduceBNe,Nat.reduceSub,Nat.reduceEqDiff,Nat.reduceAdd,Nat.reduceMul,Nat.reduceLeDiff,Nat.reduceLT,Nat.reduceBEq,reduceCtorEq]|refine aj ?_|refine ag (λ hb=> ?_) (λ hb=> ?_)|(refine And.intro ?_ ?_;exact zI)|refine And.intro (λ hg=> ?_) (λ hg=> ?_)|exact zC|fail)
 refine gr (τ:=Nat) (λ i=>⟨[al ns.length (aI ns),dd, .one (.ptr ⟨2,0,1⟩ 0), .one (.ptr ⟨3,0,1⟩ 0),ai i,dd,dd,dd,dd,dd,dd,dd,dd,dd,dd,dd,dd,dd,dd,dd,dd,dd,dd,dd,dd,dd,dd,dd,dd,dd,dd,dd,dd,dd,dd,dd,dd,dd,dd,dd,dd,dd,dd,dd,dd,dd,dd,dd,dd,dd,dd,dd,dd,dd,dd,dd,dd,dd,dd,dd,dd,dd,dd,dd,dd,dd,dd,dd,dd,dd,dd,dd,dd,dd,dd,dd,dd,dd,dd,dd,dd,dd,dd,dd,dd,dd,dd,dd,dd],[(2,{next:=2,l:=[some {e:=1,var:=true,fz:=false,sz:=0,cells:=[di 0,di 0,di 0,di 0,di 0,di 0,di 0,di 0,di 0,di 0,di 0]},none,none,none,none,none,none,none,none,none,none,none]}),(3,{next:=2,l:=[some {e:=1,var:=true,fz:=false,sz:=0,cells:=[di (eW ns i).bw,di (eW ns i).ey,di (eW ns i).aV,di (eW ns i).aT,di (eW ns i).base,di (eW ns i).cap,di (eW ns i).fh,di (eW ns i).wait,di (eW ns i).fg,di (eW ns i).eg,di (eW ns i).b8]},none,none,none,none,none,none,none,none,none,none,none]}),(28,⟨2,[]⟩)]⟩)
  (λ i=>i≤ns.length/\i≤11) (λ _=>()) (λ i=>ns.length - i) 0
  (Gh.canon [2,3] [28] [] zK rfl rfl) ⟨dA _,dA _⟩ ?_
 intro i ⟨hi0,hi1⟩ hF K hK
 repeat(first|with_reducible refine aa _ _ ?_|with_reducible refine ax (aa _ _) ?_|with_reducible refine ax (ax (aa _ _)) ?_|with_reducible refine ax (ax (ax (aa _ _))) ?_|rw[af]|simp only[zB,Nat.reduceSub,Nat.reduceEqDiff,Nat.reduceAdd,Nat.reduceMul,Nat.reduceLeDiff,Nat.reduceLT,Nat.reduceBEq,reduceCtorEq])
 refine ag (λ hlt=> ?_) (λ hge=> ?_)
 .have hlt2:i<ns.length/\i<11:=by simp at hlt;omega
  obtain⟨hi,hi2⟩:=hlt2;have hat:=l8 hi;have hw:=fv hi (by omega);have hd:bp (ns.getD i 0):=by rw[fC,eC hi];exact hn _ (ix hi)
  have hd2:=hd;unfold bp at hd2;have hci:=sj hn i;obtain⟨_,_,_,_,hcb,_,_,_,_,_,_⟩:=hci;have hwb:IntKind.i64.wrap (ns.getD i 0)=ns.getD i 0:=wrap64 (by omega) (by omega);have tm:∀k,(ns.getD i 0).tmod k=ns.getD i 0 % k:=λ k=>nC hd2.1
  have w1:IntKind.i64.wrap (1+ns.getD i 0 % 5)=1+ns.getD i 0 % 5:=wrap64 (by omega) (by omega);have w2:IntKind.i64.wrap (1+ns.getD i 0 % 20)=1+ns.getD i 0 % 20:=wrap64 (by omega) (by omega);have w3:IntKind.i64.wrap ((eW ns i).base+ns.getD i 0 % 60)=(eW ns i).base+ns.getD i 0 % 60:=wrap64 (by omega) (by omega);have w4:IntKind.i64.wrap (1+ns.getD i 0 % 6)=1+ns.getD i 0 % 6:=wrap64 (by omega) (by omega);have w6:IntKind.i64.wrap (1+ns.getD i 0 % 9)=1+ns.getD i 0 % 9:=wrap64 (by omega) (by omega);have w8:IntKind.i64.wrap (1+ns.getD i 0 % 12)=1+ns.getD i 0 % 12:=wrap64 (by omega) (by omega);have w9:IntKind.i64.wrap (1+ns.getD i 0)=1+ns.getD i 0:=wrap64 (by omega) (by omega);have qn:∀k:Int,(i:Int)≠k->((i:Int)==k)=false:=λ k h=>by simpa using h
  have qy:∀k:Int,(i:Int)=k->((i:Int)==k)=true:=λ k h=>by simpa using h
  have hcs:eW ns (i+1)=ga (eW ns i) i (ns.getD i 0):=rfl;obtain⟨c,hc⟩:∃c,c=eW ns i:=⟨_,rfl⟩;rw[←hc]at hcs hcb w3⊢;obtain⟨n,hnn⟩:∃n,n=ns.getD i 0:=⟨_,rfl⟩;rw[←hnn]at hat hd hd2 hwb tm w1 w2 w3 w4 w6 w8 w9 hcs;clear hnn hc hn;rcases(show i=0∨i=1∨i=2∨i=3∨i=4∨i=5∨i=6∨i=7∨i=8∨i=9∨i=10 by omega)with e|e|e|e|e|e|e|e|e|e|e
  .have hcs:=hcs.trans (Kf e);obtain⟨m,hm⟩:∃m:Nat,m=(n % 6).toNat:=⟨_,rfl⟩;have hm6:m<6:=by omega
   have hme:n % 6=(m:Int):=by omega
   rw[←hm]at hcs;clear hm
   repeat'(first|(with_reducible first|refine aa _ _ ?_|refine ak ?_|refine ao ?_)|rw[af]|simp only[hat,hwb,tm,hme,KD hm6,qy 0 (by omega),eG,zY,Int.reduceEq,Int.reduceBEq,Int.reduceBNe,Nat.reduceSub,Nat.reduceEqDiff,Nat.reduceAdd,Nat.reduceMul,Nat.reduceLeDiff,Nat.reduceLT,Nat.reduceBEq,reduceCtorEq]|refine aj ?_|refine ag (λ hb=> ?_) (λ hb=> ?_)|(refine And.intro ?_ ?_;exact zJ)|refine And.intro (λ hg=> ?_) (λ hg=> ?_)|exact zC|fail)
   exact hK _ (i+1) (Gh.canon [2,3] [] [] (by simp only[hw,bN,bS,bW,bR,bT,bU,bV,bM,bO,bL,bH,bK,bX,D.v.injEq,bY];try(repeat'(first|rfl|omega|with_reducible apply And.intro))) rfl (by rw[hcs];rfl)) ⟨by omega,by omega⟩ rfl (by omega)
  .have hcs:=hcs.trans (KK e)
   repeat'(first|(with_reducible first|refine aa _ _ ?_|refine ak ?_|refine ao ?_)|rw[af]|simp only[hat,hwb,tm,w1,qn 0 (by omega),qy 1 (by omega),eG,zY,Int.reduceEq,Int.reduceBEq,Int.reduceBNe,Nat.reduceSub,Nat.reduceEqDiff,Nat.reduceAdd,Nat.reduceMul,Nat.reduceLeDiff,Nat.reduceLT,Nat.reduceBEq,reduceCtorEq]|refine aj ?_|refine ag (λ hb=> ?_) (λ hb=> ?_)|(refine And.intro ?_ ?_;exact zJ)|refine And.intro (λ hg=> ?_) (λ hg=> ?_)|exact zC|fail)
   exact hK _ (i+1) (Gh.canon [2,3] [] [] (by simp only[hw,bN,bS,bW,bR,bT,bU,bV,bM,bO,bL,bH,bK,bX,D.v.injEq,bY];try(repeat'(first|rfl|omega|with_reducible apply And.intro))) rfl (by rw[hcs];rfl)) ⟨by omega,by omega⟩ rfl (by omega)
  .have hcs:=hcs.trans (J3 e)
   repeat'(first|(with_reducible first|refine aa _ _ ?_|refine ak ?_|refine ao ?_)|rw[af]|simp only[hat,hwb,tm,w2,qn 0 (by omega),qn 1 (by omega),qy 2 (by omega),eG,zY,Int.reduceEq,Int.reduceBEq,Int.reduceBNe,Nat.reduceSub,Nat.reduceEqDiff,Nat.reduceAdd,Nat.reduceMul,Nat.reduceLeDiff,Nat.reduceLT,Nat.reduceBEq,reduceCtorEq]|refine aj ?_|refine ag (λ hb=> ?_) (λ hb=> ?_)|(refine And.intro ?_ ?_;exact zJ)|refine And.intro (λ hg=> ?_) (λ hg=> ?_)|exact zC|fail)
   exact hK _ (i+1) (Gh.canon [2,3] [] [] (by simp only[hw,bN,bS,bW,bR,bT,bU,bV,bM,bO,bL,bH,bK,bX,D.v.injEq,bY];try(repeat'(first|rfl|omega|with_reducible apply And.intro))) rfl (by rw[hcs];rfl)) ⟨by omega,by omega⟩ rfl (by omega)
  .have hcs:=hcs.trans (Kb e)
   repeat'(first|(with_reducible first|refine aa _ _ ?_|refine ak ?_|refine ao ?_)|rw[af]|simp only[hat,hwb,tm,w3,qn 0 (by omega),qn 1 (by omega),qn 2 (by omega),qy 3 (by omega),eG,zY,Int.reduceEq,Int.reduceBEq,Int.reduceBNe,Nat.reduceSub,Nat.reduceEqDiff,Nat.reduceAdd,Nat.reduceMul,Nat.reduceLeDiff,Nat.reduceLT,Nat.reduceBEq,reduceCtorEq]|refine aj ?_|refine ag (λ hb=> ?_) (λ hb=> ?_)|(refine And.intro ?_ ?_;exact zJ)|refine And.intro (λ hg=> ?_) (λ hg=> ?_)|exact zC|fail)
   exact hK _ (i+1) (Gh.canon [2,3] [] [] (by simp only[hw,bN,bS,bW,bR,bT,bU,bV,bM,bO,bL,bH,bK,bX,D.v.injEq,bY];try(repeat'(first|rfl|omega|with_reducible apply And.intro))) rfl (by rw[hcs];rfl)) ⟨by omega,by omega⟩ rfl (by omega)
  .have hcs:=hcs.trans (JX e)
   repeat'(first|(with_reducible first|refine aa _ _ ?_|refine ak ?_|refine ao ?_)|rw[af]|simp only[hat,hwb,tm,w4,qn 0 (by omega),qn 1 (by omega),qn 2 (by omega),qn 3 (by omega),qy 4 (by omega),eG,zY,Int.reduceEq,Int.reduceBEq,Int.reduceBNe,Nat.reduceSub,Nat.reduceEqDiff,Nat.reduceAdd,Nat.reduceMul,Nat.reduceLeDiff,Nat.reduceLT,Nat.reduceBEq,reduceCtorEq]|refine aj ?_|refine ag (λ hb=> ?_) (λ hb=> ?_)|(refine And.intro ?_ ?_;exact zJ)|refine And.intro (λ hg=> ?_) (λ hg=> ?_)|exact zC|fail)
   exact hK _ (i+1) (Gh.canon [2,3] [] [] (by simp only[hw,bN,bS,bW,bR,bT,bU,bV,bM,bO,bL,bH,bK,bX,D.v.injEq,bY];try(repeat'(first|rfl|omega|with_reducible apply And.intro))) rfl (by rw[hcs];rfl)) ⟨by omega,by omega⟩ rfl (by omega)
  .have hcs:=hcs.trans (JS e)
   repeat'(first|(with_reducible first|refine aa _ _ ?_|refine ak ?_|refine ao ?_)|rw[af]|simp only[hat,hwb,tm,qn 0 (by omega),qn 1 (by omega),qn 2 (by omega),qn 3 (by omega),qn 4 (by omega),qy 5 (by omega),eG,zY,Int.reduceEq,Int.reduceBEq,Int.reduceBNe,Nat.reduceSub,Nat.reduceEqDiff,Nat.reduceAdd,Nat.reduceMul,Nat.reduceLeDiff,Nat.reduceLT,Nat.reduceBEq,reduceCtorEq]|refine aj ?_|refine ag (λ hb=> ?_) (λ hb=> ?_)|(refine And.intro ?_ ?_;exact zJ)|refine And.intro (λ hg=> ?_) (λ hg=> ?_)|exact zC|fail)
   exact hK _ (i+1) (Gh.canon [2,3] [] [] (by simp only[hw,bN,bS,bW,bR,bT,bU,bV,bM,bO,bL,bH,bK,bX,D.v.injEq,bY];try(repeat'(first|rfl|omega|with_reducible apply And.intro))) rfl (by rw[hcs];rfl)) ⟨by omega,by omega⟩ rfl (by omega)
  .have hcs:=hcs.trans (Kz e)
   repeat'(first|(with_reducible first|refine aa _ _ ?_|refine ak ?_|refine ao ?_)|rw[af]|simp only[hat,hwb,tm,w6,qn 0 (by omega),qn 1 (by omega),qn 2 (by omega),qn 3 (by omega),qn 4 (by omega),qn 5 (by omega),qy 6 (by omega),eG,zY,Int.reduceEq,Int.reduceBEq,Int.reduceBNe,Nat.reduceSub,Nat.reduceEqDiff,Nat.reduceAdd,Nat.reduceMul,Nat.reduceLeDiff,Nat.reduceLT,Nat.reduceBEq,reduceCtorEq]|refine aj ?_|refine ag (λ hb=> ?_) (λ hb=> ?_)|(refine And.intro ?_ ?_;exact zJ)|refine And.intro (λ hg=> ?_) (λ hg=> ?_)|exact zC|fail)
   exact hK _ (i+1) (Gh.canon [2,3] [] [] (by simp only[hw,bN,bS,bW,bR,bT,bU,bV,bM,bO,bL,bH,bK,bX,D.v.injEq,bY];try(repeat'(first|rfl|omega|with_reducible apply And.intro))) rfl (by rw[hcs];rfl)) ⟨by omega,by omega⟩ rfl (by omega)
  .have hcs:=hcs.trans (KJ e)
   repeat'(first|(with_reducible first|refine aa _ _ ?_|refine ak ?_|refine ao ?_)|rw[af]|simp only[hat,hwb,tm,w6,qn 0 (by omega),qn 1 (by omega),qn 2 (by omega),qn 3 (by omega),qn 4 (by omega),qn 5 (by omega),qn 6 (by omega),qy 7 (by omega),eG,zY,Int.reduceEq,Int.reduceBEq,Int.reduceBNe,Nat.reduceSub,Nat.reduceEqDiff,Nat.reduceAdd,Nat.reduceMul,Nat.reduceLeDiff,Nat.reduceLT,Nat.reduceBEq,reduceCtorEq]|refine aj ?_|refine ag (λ hb=> ?_) (λ hb=> ?_)|(refine And.intro ?_ ?_;exact zJ)|refine And.intro (λ hg=> ?_) (λ hg=> ?_)|exact zC|fail)
   exact hK _ (i+1) (Gh.canon [2,3] [] [] (by simp only[hw,bN,bS,bW,bR,bT,bU,bV,bM,bO,bL,bH,bK,bX,D.v.injEq,bY];try(repeat'(first|rfl|omega|with_reducible apply And.intro))) rfl (by rw[hcs];rfl)) ⟨by omega,by omega⟩ rfl (by omega)
  .have hcs:=hcs.trans (J2 e)
   repeat'(first|(with_reducible first|refine aa _ _ ?_|refine ak ?_|refine ao ?_)|rw[af]|simp only[hat,hwb,tm,w8,qn 0 (by omega),qn 1 (by omega),qn 2 (by omega),qn 3 (by omega),qn 4 (by omega),qn 5 (by omega),qn 6 (by omega),qn 7 (by omega),qy 8 (by omega),eG,zY,Int.reduceEq,Int.reduceBEq,Int.reduceBNe,Nat.reduceSub,Nat.reduceEqDiff,Nat.reduceAdd,Nat.reduceMul,Nat.reduceLeDiff,Nat.reduceLT,Nat.reduceBEq,reduceCtorEq]|refine aj ?_|refine ag (λ hb=> ?_) (λ hb=> ?_)|(refine And.intro ?_ ?_;exact zJ)|refine And.intro (λ hg=> ?_) (λ hg=> ?_)|exact zC|fail)
   exact hK _ (i+1) (Gh.canon [2,3] [] [] (by simp only[hw,bN,bS,bW,bR,bT,bU,bV,bM,bO,bL,bH,bK,bX,D.v.injEq,bY];try(repeat'(first|rfl|omega|with_reducible apply And.intro))) rfl (by rw[hcs];rfl)) ⟨by omega,by omega⟩ rfl (by omega)
  .have hcs:=hcs.trans (KH e)
   repeat'(first|(with_reducible first|refine aa _ _ ?_|refine ak ?_|refine ao ?_)|rw[af]|simp only[hat,hwb,tm,w9,qn 0 (by omega),qn 1 (by omega),qn 2 (by omega),qn 3 (by omega),qn 4 (by omega),qn 5 (by omega),qn 6 (by omega),qn 7 (by omega),qn 8 (by omega),qy 9 (by omega),eG,zY,Int.reduceEq,Int.reduceBEq,Int.reduceBNe,Nat.reduceSub,Nat.reduceEqDiff,Nat.reduceAdd,Nat.reduceMul,Nat.reduceLeDiff,Nat.reduceLT,Nat.reduceBEq,reduceCtorEq]|refine aj ?_|refine ag (λ hb=> ?_) (λ hb=> ?_)|(refine And.intro ?_ ?_;exact zJ)|refine And.intro (λ hg=> ?_) (λ hg=> ?_)|exact zC|fail)
   exact hK _ (i+1) (Gh.canon [2,3] [] [] (by simp only[hw,bN,bS,bW,bR,bT,bU,bV,bM,bO,bL,bH,bK,bX,D.v.injEq,bY];try(repeat'(first|rfl|omega|with_reducible apply And.intro))) rfl (by rw[hcs];rfl)) ⟨by omega,by omega⟩ rfl (by omega)
  .have hcs:=hcs.trans (Jx e)
   repeat'(first|(with_reducible first|refine aa _ _ ?_|refine ak ?_|refine ao ?_)|rw[af]|simp only[hat,hwb,tm,qn 0 (by omega),qn 1 (by omega),qn 2 (by omega),qn 3 (by omega),qn 4 (by omega),qn 5 (by omega),qn 6 (by omega),qn 7 (by omega),qn 8 (by omega),qn 9 (by omega),eG,zY,Int.reduceEq,Int.reduceBEq,Int.reduceBNe,Nat.reduceSub,Nat.reduceEqDiff,Nat.reduceAdd,Nat.reduceMul,Nat.reduceLeDiff,Nat.reduceLT,Nat.reduceBEq,reduceCtorEq]|refine aj ?_|refine ag (λ hb=> ?_) (λ hb=> ?_)|(refine And.intro ?_ ?_;exact zJ)|refine And.intro (λ hg=> ?_) (λ hg=> ?_)|exact zC|fail)
   exact hK _ (i+1) (Gh.canon [2,3] [] [] (by simp only[hw,bN,bS,bW,bR,bT,bU,bV,bM,bO,bL,bH,bK,bX,D.v.injEq,bY];try(repeat'(first|rfl|omega|with_reducible apply And.intro))) rfl (by rw[hcs];rfl)) ⟨by omega,by omega⟩ rfl (by omega)
 .have hi:i=min ns.length 11:=by simp at hge;omega
  have hp:tE ns=eW ns i:=by rw[hi];rfl
  rw[hp]
  repeat'(first|(with_reducible first|refine aa _ _ ?_|refine ak ?_|refine ao ?_)|rw[af]|simp only[zY,Int.reduceEq,Int.reduceBEq,Int.reduceBNe,Nat.reduceSub,Nat.reduceEqDiff,Nat.reduceAdd,Nat.reduceMul,Nat.reduceLeDiff,Nat.reduceLT,Nat.reduceBEq,reduceCtorEq]|refine aj ?_|refine ag (λ hb=> ?_) (λ hb=> ?_)|(refine And.intro ?_ ?_;exact zJ)|refine And.intro (λ hg=> ?_) (λ hg=> ?_)|exact zC|fail)
theorem Mh (n:Nat) (ds:List D) (p:Nat) (x:Int) (rest:List D) (hl:ds.length=n) (hn:n<2^62) (hp:p<n) (hat:ds.drop p= .v (.int .u8 x)::rest) (hx:0≤x/\x≤255):
  ae prog 87 [.f (bE n ds), .f (ai p)] (λ r o=>r=[ri x,ri ((p+1:Nat):Int),ri 0]/\o=[]):=by
 refine kz aO mixed (T:=Ty) func87 rfl results87 ntmps87 call87 call127 (ks:=[4,5,6]) rfl rfl rfl rfl rfl rfl (by decide) (by decide)
  (xs:=[bE n ds,ai p]) yz xG ⟨[bE n ds,ai p,dd,dd, .one (.ptr ⟨4,0,0⟩ 0), .one (.ptr ⟨5,0,0⟩ 0), .one (.ptr ⟨6,0,0⟩ 0),dd,dd,dd,dd,dd,dd,dd,dd,dd,dd,dd,dd,dd],[(4,{next:=1,l:=[some {e:=0,var:=true,fz:=false,sz:=0,cells:=[di 0]},none]}),(5,{next:=1,l:=[some {e:=0,var:=true,fz:=false,sz:=0,cells:=[di 0]},none]}),(6,{next:=1,l:=[some {e:=0,var:=true,fz:=false,sz:=0,cells:=[di 0]},none]})]⟩ ?_ ?_ rfl ?_
 .simp only[cJ,ff]
  repeat'(first|(with_reducible first|refine aa _ _ ?_|refine ak ?_|refine ao ?_)|rw[af]|simp only[zY,Int.reduceEq,Int.reduceBEq,Int.reduceBNe,Nat.reduceSub,Nat.reduceEqDiff,Nat.reduceAdd,Nat.reduceMul,Nat.reduceLeDiff,Nat.reduceLT,Nat.reduceBEq,reduceCtorEq]|refine aj ?_|refine ag (λ hb=> ?_) (λ hb=> ?_)|(refine And.intro ?_ ?_;exact zI)|refine And.intro (λ hg=> ?_) (λ hg=> ?_)|exact zC|fail)
  exact λ _ _ _ h=>h
 .exact⟨⟨_,rfl,rfl,rfl,rfl,rfl⟩,⟨_,rfl,rfl,rfl,rfl,rfl⟩,⟨_,rfl,rfl,rfl,rfl,rfl⟩,trivial⟩
 .have htk:=oF n ds p 1 hl hn (by omega);rw[hat]at htk;have hw:IntKind.i64.wrap x=x:=wrap64 (by omega) (by omega)
  repeat'(first|(with_reducible first|refine aa _ _ ?_|refine ak ?_|refine ao ?_)|rw[af]|simp only[zY,Int.reduceEq,Int.reduceBEq,Int.reduceBNe,Nat.reduceSub,Nat.reduceEqDiff,Nat.reduceAdd,Nat.reduceMul,Nat.reduceLeDiff,Nat.reduceLT,Nat.reduceBEq,reduceCtorEq]|refine aj ?_|refine ag (λ hb=> ?_) (λ hb=> ?_)|(refine And.intro ?_ ?_;exact zI)|refine And.intro (λ hg=> ?_) (λ hg=> ?_)|exact zC|fail)
  refine fa (mv:= ?mv1) (aJ:= ?le1) (x:= ?x1) (ass:= ?ass1) ?ha1 (htk) ?hr1 rfl ?hs1 ?hb1 ?hc1
  case ha1=>(try simp only[zY,Int.reduceEq,Int.reduceBEq,Int.reduceBNe,Nat.reduceSub,Nat.reduceEqDiff,Nat.reduceAdd,Nat.reduceMul,Nat.reduceLeDiff,Nat.reduceLT,Nat.reduceBEq,reduceCtorEq]);exact rfl
  case hr1=>simp[ea,eu]
  case hs1=>simp[cV,dq,dw,dG]
  case hb1=>(try simp only[zB,bA,Nat.reduceSub,Nat.reduceEqDiff,Nat.reduceAdd,Nat.reduceMul,Nat.reduceLeDiff,Nat.reduceLT,Nat.reduceBEq,reduceCtorEq]);repeat'(first|rfl|trivial|omega|with_reducible refine And.intro ?_ ?_)
  show aP _ _ _ _ _ _ _ _
  repeat'(first|(with_reducible first|refine aa _ _ ?_|refine ak ?_|refine ao ?_)|rw[af]|simp only[hw,p8,zY,Int.reduceEq,Int.reduceBEq,Int.reduceBNe,Nat.reduceSub,Nat.reduceEqDiff,Nat.reduceAdd,Nat.reduceMul,Nat.reduceLeDiff,Nat.reduceLT,Nat.reduceBEq,reduceCtorEq]|refine aj ?_|refine ag (λ hb=> ?_) (λ hb=> ?_)|(refine And.intro ?_ ?_;exact zI)|refine And.intro (λ hg=> ?_) (λ hg=> ?_)|exact zC|fail)
theorem LA (n:Nat) (ds:List D) (p:Int) (hl:ds.length=n) (hn:n<2^62) (hp:i64 p) (h:eS n p 1=true):
  ae prog 87 [.f (bE n ds), .f (ai p)] (λ r o=>r=[ri 0,ri 0,ri 2]/\o=[]):=by
 refine kz aO mixed (T:=Ty) func87 rfl results87 ntmps87 call87 call127 (ks:=[4,5,6]) rfl rfl rfl rfl rfl rfl (by decide) (by decide)
  (xs:=[bE n ds,ai p]) yz xG ⟨[bE n ds,ai p,dd,dd, .one (.ptr ⟨4,0,0⟩ 0), .one (.ptr ⟨5,0,0⟩ 0), .one (.ptr ⟨6,0,0⟩ 0),dd,dd,dd,dd,dd,dd,dd,dd,dd,dd,dd,dd,dd],[(4,{next:=1,l:=[some {e:=0,var:=true,fz:=false,sz:=0,cells:=[di 0]},none]}),(5,{next:=1,l:=[some {e:=0,var:=true,fz:=false,sz:=0,cells:=[di 0]},none]}),(6,{next:=1,l:=[some {e:=0,var:=true,fz:=false,sz:=0,cells:=[di 0]},none]})]⟩ ?_ ?_ rfl ?_
 .simp only[cJ,ff]
  repeat'(first|(with_reducible first|refine aa _ _ ?_|refine ak ?_|refine ao ?_)|rw[af]|simp only[zY,Int.reduceEq,Int.reduceBEq,Int.reduceBNe,Nat.reduceSub,Nat.reduceEqDiff,Nat.reduceAdd,Nat.reduceMul,Nat.reduceLeDiff,Nat.reduceLT,Nat.reduceBEq,reduceCtorEq]|refine aj ?_|refine ag (λ hb=> ?_) (λ hb=> ?_)|(refine And.intro ?_ ?_;exact zI)|refine And.intro (λ hg=> ?_) (λ hg=> ?_)|exact zC|fail)
  exact λ _ _ _ h=>h
 .exact⟨⟨_,rfl,rfl,rfl,rfl,rfl⟩,⟨_,rfl,rfl,rfl,rfl,rfl⟩,⟨_,rfl,rfl,rfl,rfl,rfl⟩,trivial⟩
 .have htk:=sa n ds p 1 hl hn hp h
  repeat'(first|(with_reducible first|refine aa _ _ ?_|refine ak ?_|refine ao ?_)|rw[af]|simp only[zY,Int.reduceEq,Int.reduceBEq,Int.reduceBNe,Nat.reduceSub,Nat.reduceEqDiff,Nat.reduceAdd,Nat.reduceMul,Nat.reduceLeDiff,Nat.reduceLT,Nat.reduceBEq,reduceCtorEq]|refine aj ?_|refine ag (λ hb=> ?_) (λ hb=> ?_)|(refine And.intro ?_ ?_;exact zI)|refine And.intro (λ hg=> ?_) (λ hg=> ?_)|exact zC|fail)
  refine rQ 0 (mv:= ?mv7) (aJ:= ?le7) (l':=jo n ds p) ?ha7 (htk) ?hb7 rfl ?hc7
  case ha7=>(try simp only[zY,Int.reduceEq,Int.reduceBEq,Int.reduceBNe,Nat.reduceSub,Nat.reduceEqDiff,Nat.reduceAdd,Nat.reduceMul,Nat.reduceLeDiff,Nat.reduceLT,Nat.reduceBEq,reduceCtorEq]);exact rfl
  case hb7=>(try simp only[zB,bA,Nat.reduceSub,Nat.reduceEqDiff,Nat.reduceAdd,Nat.reduceMul,Nat.reduceLeDiff,Nat.reduceLT,Nat.reduceBEq,reduceCtorEq]);repeat'(first|rfl|trivial|omega|with_reducible refine And.intro ?_ ?_)
  simp only[l4,lZ,l5,oa];refine⟨⟨_,rfl⟩,rfl,⟨⟨_,rfl,rfl,rfl,rfl,rfl⟩,⟨_,rfl,rfl,rfl,rfl,rfl⟩,⟨_,rfl,rfl,rfl,rfl,rfl⟩,trivial⟩, ?_⟩;rw[show iT 20 [4,5,6] (re (.int .i64 0) (mb 177 2))=⟨[dd,dd,dd,dd, .one (.ptr ⟨4,0,0⟩ 0), .one (.ptr ⟨5,0,0⟩ 0), .one (.ptr ⟨6,0,0⟩ 0),dd,dd,dd,dd,dd,dd,dd,dd,dd,dd,dd,dd,dd],[(4,{next:=1,l:=[some {e:=0,var:=true,fz:=false,sz:=0,cells:=[di 0]}]}),(5,{next:=1,l:=[some {e:=0,var:=true,fz:=false,sz:=0,cells:=[di 0]}]}),(6,{next:=1,l:=[some {e:=0,var:=true,fz:=false,sz:=0,cells:=[di 2]}]})]⟩ from rfl];simp only[zB,Nat.reduceSub,Nat.reduceEqDiff,Nat.reduceAdd,Nat.reduceMul,Nat.reduceLeDiff,Nat.reduceLT,Nat.reduceBEq,reduceCtorEq]
def er (l:List Int):Int:=l.foldl (λ u c=>u*256+c) 0
theorem Kt {l:List Int} {c:Int}:er (l++[c])=er l*256+c:=by unfold er;rw[List.foldl_append];rfl
theorem yp:∀{l:List Int} {a:Int},0≤a->(∀c∈l,bp c)->0≤l.foldl (λ u c=>u*256+c) a/\l.foldl (λ u c=>u*256+c) a<(a+1)*256^l.length
 |[],a,ha,_=>by simp;omega
 |c::l,a,ha,h=>by
  have h2:=h c (by simp);unfold bp at h2;obtain⟨h3,h4⟩:=yp (l:=l) (a:=a*256+c) (by omega) λ x hx=>h x (by simp[hx])
  refine⟨h3,Int.lt_of_lt_of_le h4 ?_⟩;rw[de,Int.pow_succ,Int.mul_comm (256^l.length) 256,←Int.mul_assoc];exact Int.mul_le_mul_of_nonneg_right (by omega) (nt (by decide))
theorem uB {l:List Int} (h:∀c∈l,bp c):0≤er l/\er l<256^l.length:=by have:=yp (l:=l) (a:=0) (by decide) h;rw[Int.zero_add,Int.one_mul]at this;exact this
theorem NZ {i:Nat} (h:i<8):(256:Int)^i≤72057594037927936:=by rcases(show i=0∨i=1∨i=2∨i=3∨i=4∨i=5∨i=6∨i=7 by omega)with rfl|rfl|rfl|rfl|rfl|rfl|rfl|rfl<;>decide
theorem vR {n:Int} (h0:0≤n) (h1:n<18446744073709551616):IntKind.u64.wrap n=n:=by
 have e:IntKind.u64.wrap n=n % 18446744073709551616:=by unfold IntKind.wrap;simp[IntKind.bits,IntKind.signed]
 rw[e];omega
theorem Ng {u c:Int} (hu:0≤u/\u<72057594037927936) (hc:0≤c/\c≤255):
  IntKind.u64.wrap (BitVec.ofInt IntKind.u64.bits (u*256)|||BitVec.ofInt IntKind.u64.bits c).toNat=u*256+c:=by
 obtain⟨a,rfl⟩:=o8 hu.1;obtain⟨b,rfl⟩:=o8 hc.1;have hb:IntKind.u64.bits=64:=rfl;rw[hb];have e1:(BitVec.ofInt 64 ((a:Int)*256)|||BitVec.ofInt 64 (b:Int)).toNat=a*256+b:=by
  have h1:((a:Int)*256)=((a*256:Nat):Int):=by omega
  rw[h1,BitVec.ofInt_natCast,BitVec.ofInt_natCast,BitVec.toNat_or,BitVec.toNat_ofNat,BitVec.toNat_ofNat];rw[Nat.mod_eq_of_lt (by omega),Nat.mod_eq_of_lt (by omega)];have:=Nat.shiftLeft_add_eq_or_of_lt (i:=8) (b:=b) (by omega) a;rw[Nat.shiftLeft_eq]at this;exact this.symm
 rw[e1,vR (by omega) (by omega)];omega
theorem kC {l:List Int} {i:Nat} (hi:i<l.length) (h:∀c∈l,bp c):bp (l.getD i 0):=by rw[fC,eC hi];exact h _ (ix hi)
theorem J0 {l:List Int} {i:Nat} (hi:i<l.length):er (l.take (i+1))=er (l.take i)*256+l.getD i 0:=by rw[List.take_succ_eq_append_getElem hi,Kt,fC,eC hi];rfl
theorem Mu (n:Nat) (ds:List D) (p:Nat) (c:List Int) (hl:ds.length=n) (hn:n<2^62) (hp:p+8≤n) (hat:(ds.drop p).take 8=aI c) (hc8:c.length=8) (hc:∀x∈c,bp x):
  ae prog 88 [.f (bE n ds), .f (ai p)] (λ r o=>r=(if er c<4611686018427387904 then [ri (er c),ri ((p+8:Nat):Int),ri 0]else [ri 0,ri 0,ri 4])/\o=[]):=by
 refine kz aO mixed (T:=Ty) func88 rfl results88 ntmps88 call88 call129 (ks:=[4,5,6]) rfl rfl rfl rfl rfl rfl (by decide) (by decide)
  (xs:=[bE n ds,ai p]) zL yI ⟨[bE n ds,ai p,dd,dd, .one (.ptr ⟨4,0,0⟩ 0), .one (.ptr ⟨5,0,0⟩ 0), .one (.ptr ⟨6,0,0⟩ 0),dd,dd,dd,dd,dd,dd,dd,dd,dd,dd,dd,dd,dd,dd,dd,dd,dd,dd,dd,dd,dd,dd,dd,dd,dd,dd,dd,dd],[(4,{next:=1,l:=[some {e:=0,var:=true,fz:=false,sz:=0,cells:=[di 0]},none]}),(5,{next:=1,l:=[some {e:=0,var:=true,fz:=false,sz:=0,cells:=[di 0]},none]}),(6,{next:=1,l:=[some {e:=0,var:=true,fz:=false,sz:=0,cells:=[di 0]},none]})]⟩ ?_ ?_ rfl ?_
 .simp only[cJ,ff]
  repeat'(first|(with_reducible first|refine aa _ _ ?_|refine ak ?_|refine ao ?_)|rw[af]|simp only[zY,Int.reduceEq,Int.reduceBEq,Int.reduceBNe,Nat.reduceSub,Nat.reduceEqDiff,Nat.reduceAdd,Nat.reduceMul,Nat.reduceLeDiff,Nat.reduceLT,Nat.reduceBEq,reduceCtorEq]|refine aj ?_|refine ag (λ hb=> ?_) (λ hb=> ?_)|(refine And.intro ?_ ?_;exact zI)|refine And.intro (λ hg=> ?_) (λ hg=> ?_)|exact zC|fail)
  exact λ _ _ _ h=>h
 .exact⟨⟨_,rfl,rfl,rfl,rfl,rfl⟩,⟨_,rfl,rfl,rfl,rfl,rfl⟩,⟨_,rfl,rfl,rfl,rfl,rfl⟩,trivial⟩
 .have htk:=oF n ds p 8 hl hn hp;rw[hat]at htk;have hb1:=uB hc;rw[hc8]at hb1
  repeat'(first|(with_reducible first|refine aa _ _ ?_|refine ak ?_|refine ao ?_)|rw[af]|simp only[zY,Int.reduceEq,Int.reduceBEq,Int.reduceBNe,Nat.reduceSub,Nat.reduceEqDiff,Nat.reduceAdd,Nat.reduceMul,Nat.reduceLeDiff,Nat.reduceLT,Nat.reduceBEq,reduceCtorEq]|refine aj ?_|refine ag (λ hb=> ?_) (λ hb=> ?_)|(refine And.intro ?_ ?_;exact zI)|refine And.intro (λ hg=> ?_) (λ hg=> ?_)|exact zC|fail)
  refine fa (mv:= ?mv2) (aJ:= ?le2) (x:= ?x2) (ass:= ?ass2) ?ha2 (htk) ?hr2 rfl ?hs2 ?hb2 ?hc2
  case ha2=>(try simp only[zY,Int.reduceEq,Int.reduceBEq,Int.reduceBNe,Nat.reduceSub,Nat.reduceEqDiff,Nat.reduceAdd,Nat.reduceMul,Nat.reduceLeDiff,Nat.reduceLT,Nat.reduceBEq,reduceCtorEq]);exact rfl
  case hr2=>simp[ea,eu]
  case hs2=>simp[cV,dq,dw,dG]
  case hb2=>(try simp only[zB,bA,Nat.reduceSub,Nat.reduceEqDiff,Nat.reduceAdd,Nat.reduceMul,Nat.reduceLeDiff,Nat.reduceLT,Nat.reduceBEq,reduceCtorEq]);repeat'(first|rfl|trivial|omega|with_reducible refine And.intro ?_ ?_)
  show aP _ _ _ _ _ _ _ _
  repeat'(first|(with_reducible first|refine aa _ _ ?_|refine ak ?_|refine ao ?_)|rw[af]|simp only[zY,Int.reduceEq,Int.reduceBEq,Int.reduceBNe,Nat.reduceSub,Nat.reduceEqDiff,Nat.reduceAdd,Nat.reduceMul,Nat.reduceLeDiff,Nat.reduceLT,Nat.reduceBEq,reduceCtorEq]|refine aj ?_|refine ag (λ hb=> ?_) (λ hb=> ?_)|(refine And.intro ?_ ?_;exact zI)|refine And.intro (λ hg=> ?_) (λ hg=> ?_)|exact zC|fail)
  refine fJ Ty prog (τ:=Nat) (λ i=>⟨[dd,dd,dd,dd, .one (.ptr ⟨4,0,0⟩ 0), .one (.ptr ⟨5,0,0⟩ 0), .one (.ptr ⟨6,0,0⟩ 0), .one (.ptr ⟨7,0,1⟩ 0), .one (.d (.v (.int .u64 (er (c.take i))))),dd,dd,dd,dd,dd,dd,bE 8 (aI c),ai 8,ai i,dd,dd,dd,dd,dd,dd,dd,dd,dd,dd,dd,dd,dd,dd,dd,dd,dd],[(4,{next:=1,l:=[some {e:=0,var:=true,fz:=false,sz:=0,cells:=[di 0]},none]}),(5,{next:=1,l:=[some {e:=0,var:=true,fz:=false,sz:=0,cells:=[di 0]},none]}),(6,{next:=1,l:=[some {e:=0,var:=true,fz:=false,sz:=0,cells:=[di 0]},none]}),(7,{next:=2,l:=[some {e:=1,var:=true,fz:=false,sz:=0,cells:=[.d (.sl n ds),di ((p+8:Nat):Int)]},none,none]})]⟩)
   (λ i=>i≤8) (λ i=>8 - i) 0 (Gh.canon [4,5,6,7] [] [4,5,6] zK rfl rfl) (dA _) ?_
  intro i hi0 K hK
  repeat(first|with_reducible refine aa _ _ ?_|with_reducible refine ax (aa _ _) ?_|with_reducible refine ax (ax (aa _ _)) ?_|with_reducible refine ax (ax (ax (aa _ _))) ?_|rw[af]|simp only[zB,Nat.reduceSub,Nat.reduceEqDiff,Nat.reduceAdd,Nat.reduceMul,Nat.reduceLeDiff,Nat.reduceLT,Nat.reduceBEq,reduceCtorEq])
  refine ag (λ hlt=> ?_) (λ hge=> ?_)
  .have hi:i<c.length:=by simp at hlt;omega
   have hat2:=l8 hi;have hw:=fv (i:=i) (n:=8) (by omega) (by omega);have hx:=kC hi hc;unfold bp at hx;have hbi:=uB (l:=c.take i) λ x hx=>hc x (qw hx)
   have hli:(c.take i).length=i:=by rw[gR];omega
   rw[hli]at hbi;have hp8:=NZ (i:=i) (by omega);have w1:min (Int.toNat 8) IntKind.u64.bits=8:=by decide
   have w2:IntKind.u64.wrap (er (c.take i)*2^8)=er (c.take i)*256:=vR (by omega) (by omega);have w3:IntKind.u64.wrap (c.getD i 0)=c.getD i 0:=vR (by omega) (by omega);have w4:=Ng (u:=er (c.take i)) (c:=c.getD i 0) ⟨hbi.1,by omega⟩ hx;have w5:=J0 hi;have w6:¬((8:Int)<0):=by decide
   repeat'(first|(with_reducible first|refine aa _ _ ?_|refine ak ?_|refine ao ?_)|rw[af]|simp only[hat2,eG,hc8,w1,w2,w3,w4,ar w6,zY,Int.reduceEq,Int.reduceBEq,Int.reduceBNe,Nat.reduceSub,Nat.reduceEqDiff,Nat.reduceAdd,Nat.reduceMul,Nat.reduceLeDiff,Nat.reduceLT,Nat.reduceBEq,reduceCtorEq]|refine aj ?_|refine ag (λ hb=> ?_) (λ hb=> ?_)|(refine And.intro ?_ ?_;exact zI)|refine And.intro (λ hg=> ?_) (λ hg=> ?_)|exact zC|fail)
   exact hK _ (i+1) (Gh.canon [4,5,6,7] [] [4,5,6] (by simp only[hw,w5,bN,bS,bW,bR,bT,bU,bV,bM,bO,bL,bH,bK,bX,D.v.injEq,bY];try(repeat'(first|rfl|omega|with_reducible apply And.intro))) rfl rfl) (by omega) (by omega)
  .have hi:i=8:=by
    have:¬(i:Int)<8:=by simpa using hge
    omega
   subst hi;have ht:c.take 8=c:=dX (by omega);have w7:IntKind.i64.wrap (er c)=er c∨¬er c<4611686018427387904:=by
    by_cases h:er c<4611686018427387904
    .exact .inl (wrap64 (by omega) (by omega))
    .exact .inr h
   by_cases hlt:er c<4611686018427387904
   .have h1:decide (er c≥4611686018427387904)=false:=by simp;omega
    have w7:IntKind.i64.wrap (er c)=er c:=wrap64 (by omega) (by omega)
    repeat'(first|(with_reducible first|refine aa _ _ ?_|refine ak ?_|refine ao ?_)|rw[af]|simp only[ht,h1,w7,ay hlt,p8,zY,Int.reduceEq,Int.reduceBEq,Int.reduceBNe,Nat.reduceSub,Nat.reduceEqDiff,Nat.reduceAdd,Nat.reduceMul,Nat.reduceLeDiff,Nat.reduceLT,Nat.reduceBEq,reduceCtorEq]|refine aj ?_|refine ag (λ hb=> ?_) (λ hb=> ?_)|(refine And.intro ?_ ?_;exact zI)|refine And.intro (λ hg=> ?_) (λ hg=> ?_)|exact zC|fail)
   .have h1:decide (er c≥4611686018427387904)=true:=by simp;omega
    repeat'(first|(with_reducible first|refine aa _ _ ?_|refine ak ?_|refine ao ?_)|rw[af]|simp only[ht,h1,ar hlt,zY,Int.reduceEq,Int.reduceBEq,Int.reduceBNe,Nat.reduceSub,Nat.reduceEqDiff,Nat.reduceAdd,Nat.reduceMul,Nat.reduceLeDiff,Nat.reduceLT,Nat.reduceBEq,reduceCtorEq]|refine aj ?_|refine ag (λ hb=> ?_) (λ hb=> ?_)|(refine And.intro ?_ ?_;exact zI)|refine And.intro (λ hg=> ?_) (λ hg=> ?_)|exact zC|fail)
    simp only[l4,lZ,l5,oa];refine⟨⟨_,rfl⟩,rfl,⟨⟨_,rfl,rfl,rfl,rfl,rfl⟩,⟨_,rfl,rfl,rfl,rfl,rfl⟩,⟨_,rfl,rfl,rfl,rfl,rfl⟩,trivial⟩, ?_⟩;rw[show iT 35 [4,5,6] (re (.int .i64 0) (mb 177 4))=⟨[dd,dd,dd,dd, .one (.ptr ⟨4,0,0⟩ 0), .one (.ptr ⟨5,0,0⟩ 0), .one (.ptr ⟨6,0,0⟩ 0),dd,dd,dd,dd,dd,dd,dd,dd,dd,dd,dd,dd,dd,dd,dd,dd,dd,dd,dd,dd,dd,dd,dd,dd,dd,dd,dd,dd],[(4,{next:=1,l:=[some {e:=0,var:=true,fz:=false,sz:=0,cells:=[di 0]}]}),(5,{next:=1,l:=[some {e:=0,var:=true,fz:=false,sz:=0,cells:=[di 0]}]}),(6,{next:=1,l:=[some {e:=0,var:=true,fz:=false,sz:=0,cells:=[di 4]}]})]⟩ from rfl];simp only[zB,Nat.reduceSub,Nat.reduceEqDiff,Nat.reduceAdd,Nat.reduceMul,Nat.reduceLeDiff,Nat.reduceLT,Nat.reduceBEq,reduceCtorEq]
theorem L2 (n:Nat) (ds:List D) (p:Int) (hl:ds.length=n) (hn:n<2^62) (hp:i64 p) (h:eS n p 8=true):
  ae prog 88 [.f (bE n ds), .f (ai p)] (λ r o=>r=[ri 0,ri 0,ri 2]/\o=[]):=by
 refine kz aO mixed (T:=Ty) func88 rfl results88 ntmps88 call88 call129 (ks:=[4,5,6]) rfl rfl rfl rfl rfl rfl (by decide) (by decide)
  (xs:=[bE n ds,ai p]) zL yI ⟨[bE n ds,ai p,dd,dd, .one (.ptr ⟨4,0,0⟩ 0), .one (.ptr ⟨5,0,0⟩ 0), .one (.ptr ⟨6,0,0⟩ 0),dd,dd,dd,dd,dd,dd,dd,dd,dd,dd,dd,dd,dd,dd,dd,dd,dd,dd,dd,dd,dd,dd,dd,dd,dd,dd,dd,dd],[(4,{next:=1,l:=[some {e:=0,var:=true,fz:=false,sz:=0,cells:=[di 0]},none]}),(5,{next:=1,l:=[some {e:=0,var:=true,fz:=false,sz:=0,cells:=[di 0]},none]}),(6,{next:=1,l:=[some {e:=0,var:=true,fz:=false,sz:=0,cells:=[di 0]},none]})]⟩ ?_ ?_ rfl ?_
 .simp only[cJ,ff]
  repeat'(first|(with_reducible first|refine aa _ _ ?_|refine ak ?_|refine ao ?_)|rw[af]|simp only[zY,Int.reduceEq,Int.reduceBEq,Int.reduceBNe,Nat.reduceSub,Nat.reduceEqDiff,Nat.reduceAdd,Nat.reduceMul,Nat.reduceLeDiff,Nat.reduceLT,Nat.reduceBEq,reduceCtorEq]|refine aj ?_|refine ag (λ hb=> ?_) (λ hb=> ?_)|(refine And.intro ?_ ?_;exact zI)|refine And.intro (λ hg=> ?_) (λ hg=> ?_)|exact zC|fail)
  exact λ _ _ _ h=>h
 .exact⟨⟨_,rfl,rfl,rfl,rfl,rfl⟩,⟨_,rfl,rfl,rfl,rfl,rfl⟩,⟨_,rfl,rfl,rfl,rfl,rfl⟩,trivial⟩
 .have htk:=sa n ds p 8 hl hn hp h
  repeat'(first|(with_reducible first|refine aa _ _ ?_|refine ak ?_|refine ao ?_)|rw[af]|simp only[zY,Int.reduceEq,Int.reduceBEq,Int.reduceBNe,Nat.reduceSub,Nat.reduceEqDiff,Nat.reduceAdd,Nat.reduceMul,Nat.reduceLeDiff,Nat.reduceLT,Nat.reduceBEq,reduceCtorEq]|refine aj ?_|refine ag (λ hb=> ?_) (λ hb=> ?_)|(refine And.intro ?_ ?_;exact zI)|refine And.intro (λ hg=> ?_) (λ hg=> ?_)|exact zC|fail)
  refine rQ 0 (mv:= ?mv8) (aJ:= ?le8) (l':=jo n ds p) ?ha8 (htk) ?hb8 rfl ?hc8
  case ha8=>(try simp only[zY,Int.reduceEq,Int.reduceBEq,Int.reduceBNe,Nat.reduceSub,Nat.reduceEqDiff,Nat.reduceAdd,Nat.reduceMul,Nat.reduceLeDiff,Nat.reduceLT,Nat.reduceBEq,reduceCtorEq]);exact rfl
  case hb8=>(try simp only[zB,bA,Nat.reduceSub,Nat.reduceEqDiff,Nat.reduceAdd,Nat.reduceMul,Nat.reduceLeDiff,Nat.reduceLT,Nat.reduceBEq,reduceCtorEq]);repeat'(first|rfl|trivial|omega|with_reducible refine And.intro ?_ ?_)
  simp only[l4,lZ,l5,oa];refine⟨⟨_,rfl⟩,rfl,⟨⟨_,rfl,rfl,rfl,rfl,rfl⟩,⟨_,rfl,rfl,rfl,rfl,rfl⟩,⟨_,rfl,rfl,rfl,rfl,rfl⟩,trivial⟩, ?_⟩;rw[show iT 35 [4,5,6] (re (.int .i64 0) (mb 177 2))=⟨[dd,dd,dd,dd, .one (.ptr ⟨4,0,0⟩ 0), .one (.ptr ⟨5,0,0⟩ 0), .one (.ptr ⟨6,0,0⟩ 0),dd,dd,dd,dd,dd,dd,dd,dd,dd,dd,dd,dd,dd,dd,dd,dd,dd,dd,dd,dd,dd,dd,dd,dd,dd,dd,dd,dd],[(4,{next:=1,l:=[some {e:=0,var:=true,fz:=false,sz:=0,cells:=[di 0]}]}),(5,{next:=1,l:=[some {e:=0,var:=true,fz:=false,sz:=0,cells:=[di 0]}]}),(6,{next:=1,l:=[some {e:=0,var:=true,fz:=false,sz:=0,cells:=[di 2]}]})]⟩ from rfl];simp only[zB,Nat.reduceSub,Nat.reduceEqDiff,Nat.reduceAdd,Nat.reduceMul,Nat.reduceLeDiff,Nat.reduceLT,Nat.reduceBEq,reduceCtorEq]
theorem tY:∀l:List Int,bytesOf (aI l)=some (l.map λ n=>UInt8.ofNat n.toNat)
 |[]=>rfl
 |n::l=>by have:=tY l;simp only[aI,cJ,bytesOf]at this⊢;rw[this]
def qD (c:List Int):ByteArray:=⟨(c.map λ n=>UInt8.ofNat n.toNat).toArray⟩
theorem L6 (n:Nat) (ds:List D) (p x:Nat) (most:Int) (c:List Int) (rest:List D) (hl:ds.length=n) (hn:n<2^62) (hp:p+1+x≤n) (hat:ds.drop p= .v (.int .u8 (x:Int))::rest) (hx:x≤255) (hm:(x:Int)≤most)
  (hat2:(ds.drop (p+1)).take x=aI c) (hcx:c.length=x):ae prog 130 [.f (bE n ds), .f (ai p), .f (ai most)] (λ r o=>r=[.one (.d (sD (qD c))),ri ((p+1+x:Nat):Int),ri 0]/\o=[]):=by
 refine kz aO mixed (T:=Ty) func130 rfl results130 ntmps130 call130 call166 (ks:=[6,7,8]) rfl rfl rfl rfl rfl rfl (by decide) (by decide)
  (xs:=[bE n ds,ai p,ai most]) rI rm ⟨[bE n ds,ai p,ai most,dd,dd,dd, .one (.ptr ⟨6,0,0⟩ 0), .one (.ptr ⟨7,0,0⟩ 0), .one (.ptr ⟨8,0,0⟩ 0),dd,dd,dd,dd,dd,dd,dd,dd,dd,dd,dd,dd,dd,dd,dd,dd,dd,dd,dd,dd,dd],[(6,{next:=1,l:=[some {e:=0,var:=true,fz:=false,sz:=0,cells:=[dS .empty]},none]}),(7,{next:=1,l:=[some {e:=0,var:=true,fz:=false,sz:=0,cells:=[di 0]},none]}),(8,{next:=1,l:=[some {e:=0,var:=true,fz:=false,sz:=0,cells:=[di 0]},none]})]⟩ ?_ ?_ rfl ?_
 .simp only[cJ,ff]
  repeat'(first|(with_reducible first|refine aa _ _ ?_|refine ak ?_|refine ao ?_)|rw[af]|simp only[zY,Int.reduceEq,Int.reduceBEq,Int.reduceBNe,Nat.reduceSub,Nat.reduceEqDiff,Nat.reduceAdd,Nat.reduceMul,Nat.reduceLeDiff,Nat.reduceLT,Nat.reduceBEq,reduceCtorEq]|refine aj ?_|refine ag (λ hb=> ?_) (λ hb=> ?_)|(refine And.intro ?_ ?_;exact zI)|refine And.intro (λ hg=> ?_) (λ hg=> ?_)|exact zC|fail)
  exact λ _ _ _ h=>h
 .exact⟨⟨_,rfl,rfl,rfl,rfl,rfl⟩,⟨_,rfl,rfl,rfl,rfl,rfl⟩,⟨_,rfl,rfl,rfl,rfl,rfl⟩,trivial⟩
 .have htk:=oF n ds p 1 hl hn (by omega);rw[hat]at htk;have htk2:=oF n ds (p+1) x hl hn (by omega);rw[hat2]at htk2;have hw:IntKind.i64.wrap (x:Int)=(x:Int):=wrap64 (by omega) (by omega);have h1:decide ((x:Int)>most)=false:=by simp;omega
  repeat'(first|(with_reducible first|refine aa _ _ ?_|refine ak ?_|refine ao ?_)|rw[af]|simp only[zY,Int.reduceEq,Int.reduceBEq,Int.reduceBNe,Nat.reduceSub,Nat.reduceEqDiff,Nat.reduceAdd,Nat.reduceMul,Nat.reduceLeDiff,Nat.reduceLT,Nat.reduceBEq,reduceCtorEq]|refine aj ?_|refine ag (λ hb=> ?_) (λ hb=> ?_)|(refine And.intro ?_ ?_;exact zI)|refine And.intro (λ hg=> ?_) (λ hg=> ?_)|exact zC|fail)
  refine fa (mv:= ?mv3) (aJ:= ?le3) (x:= ?x3) (ass:= ?ass3) ?ha3 (htk) ?hr3 rfl ?hs3 ?hb3 ?hc3
  case ha3=>(try simp only[zY,Int.reduceEq,Int.reduceBEq,Int.reduceBNe,Nat.reduceSub,Nat.reduceEqDiff,Nat.reduceAdd,Nat.reduceMul,Nat.reduceLeDiff,Nat.reduceLT,Nat.reduceBEq,reduceCtorEq]);exact rfl
  case hr3=>simp[ea,eu]
  case hs3=>simp[cV,dq,dw,dG]
  case hb3=>(try simp only[zB,bA,Nat.reduceSub,Nat.reduceEqDiff,Nat.reduceAdd,Nat.reduceMul,Nat.reduceLeDiff,Nat.reduceLT,Nat.reduceBEq,reduceCtorEq]);repeat'(first|rfl|trivial|omega|with_reducible refine And.intro ?_ ?_)
  show aP _ _ _ _ _ _ _ _
  repeat'(first|(with_reducible first|refine aa _ _ ?_|refine ak ?_|refine ao ?_)|rw[af]|simp only[hw,h1,zY,Int.reduceEq,Int.reduceBEq,Int.reduceBNe,Nat.reduceSub,Nat.reduceEqDiff,Nat.reduceAdd,Nat.reduceMul,Nat.reduceLeDiff,Nat.reduceLT,Nat.reduceBEq,reduceCtorEq]|refine aj ?_|refine ag (λ hb=> ?_) (λ hb=> ?_)|(refine And.intro ?_ ?_;exact zI)|refine And.intro (λ hg=> ?_) (λ hg=> ?_)|exact zC|fail)
  refine fa (mv:= ?mv4) (aJ:= ?le4) (x:= ?x4) (ass:= ?ass4) ?ha4 (htk2) ?hr4 rfl ?hs4 ?hb4 ?hc4
  case ha4=>(try simp only[zY,Int.reduceEq,Int.reduceBEq,Int.reduceBNe,Nat.reduceSub,Nat.reduceEqDiff,Nat.reduceAdd,Nat.reduceMul,Nat.reduceLeDiff,Nat.reduceLT,Nat.reduceBEq,reduceCtorEq]);exact rfl
  case hr4=>simp[ea,eu]
  case hs4=>simp[cV,dq,dw,dG]
  case hb4=>(try simp only[zB,bA,Nat.reduceSub,Nat.reduceEqDiff,Nat.reduceAdd,Nat.reduceMul,Nat.reduceLeDiff,Nat.reduceLT,Nat.reduceBEq,reduceCtorEq]);repeat'(first|rfl|trivial|omega|with_reducible refine And.intro ?_ ?_)
  show aP _ _ _ _ _ _ _ _
  repeat'(first|(with_reducible first|refine aa _ _ ?_|refine ak ?_|refine ao ?_)|rw[af]|simp only[tY,eG,hcx,p8,zY,Int.reduceEq,Int.reduceBEq,Int.reduceBNe,Nat.reduceSub,Nat.reduceEqDiff,Nat.reduceAdd,Nat.reduceMul,Nat.reduceLeDiff,Nat.reduceLT,Nat.reduceBEq,reduceCtorEq]|refine aj ?_|refine ag (λ hb=> ?_) (λ hb=> ?_)|(refine And.intro ?_ ?_;exact zI)|refine And.intro (λ hg=> ?_) (λ hg=> ?_)|exact zC|fail)
  rfl
theorem JN (n:Nat) (ds:List D) (p x:Nat) (most:Int) (rest:List D) (hl:ds.length=n) (hn:n<2^62) (hp:p+1≤n) (hat:ds.drop p= .v (.int .u8 (x:Int))::rest) (hx:x≤255) (hm:¬(x:Int)≤most):
  ae prog 130 [.f (bE n ds), .f (ai p), .f (ai most)] (λ r o=>r=[.one (.d (sD .empty)),ri 0,ri 3]/\o=[]):=by
 refine kz aO mixed (T:=Ty) func130 rfl results130 ntmps130 call130 call166 (ks:=[6,7,8]) rfl rfl rfl rfl rfl rfl (by decide) (by decide)
  (xs:=[bE n ds,ai p,ai most]) rI rm ⟨[bE n ds,ai p,ai most,dd,dd,dd, .one (.ptr ⟨6,0,0⟩ 0), .one (.ptr ⟨7,0,0⟩ 0), .one (.ptr ⟨8,0,0⟩ 0),dd,dd,dd,dd,dd,dd,dd,dd,dd,dd,dd,dd,dd,dd,dd,dd,dd,dd,dd,dd,dd],[(6,{next:=1,l:=[some {e:=0,var:=true,fz:=false,sz:=0,cells:=[dS .empty]},none]}),(7,{next:=1,l:=[some {e:=0,var:=true,fz:=false,sz:=0,cells:=[di 0]},none]}),(8,{next:=1,l:=[some {e:=0,var:=true,fz:=false,sz:=0,cells:=[di 0]},none]})]⟩ ?_ ?_ rfl ?_
 .simp only[cJ,ff]
  repeat'(first|(with_reducible first|refine aa _ _ ?_|refine ak ?_|refine ao ?_)|rw[af]|simp only[zY,Int.reduceEq,Int.reduceBEq,Int.reduceBNe,Nat.reduceSub,Nat.reduceEqDiff,Nat.reduceAdd,Nat.reduceMul,Nat.reduceLeDiff,Nat.reduceLT,Nat.reduceBEq,reduceCtorEq]|refine aj ?_|refine ag (λ hb=> ?_) (λ hb=> ?_)|(refine And.intro ?_ ?_;exact zI)|refine And.intro (λ hg=> ?_) (λ hg=> ?_)|exact zC|fail)
  exact λ _ _ _ h=>h
 .exact⟨⟨_,rfl,rfl,rfl,rfl,rfl⟩,⟨_,rfl,rfl,rfl,rfl,rfl⟩,⟨_,rfl,rfl,rfl,rfl,rfl⟩,trivial⟩
 .have htk:=oF n ds p 1 hl hn (by omega);rw[hat]at htk;have hw:IntKind.i64.wrap (x:Int)=(x:Int):=wrap64 (by omega) (by omega);have h1:decide ((x:Int)>most)=true:=by simp;omega
  repeat'(first|(with_reducible first|refine aa _ _ ?_|refine ak ?_|refine ao ?_)|rw[af]|simp only[zY,Int.reduceEq,Int.reduceBEq,Int.reduceBNe,Nat.reduceSub,Nat.reduceEqDiff,Nat.reduceAdd,Nat.reduceMul,Nat.reduceLeDiff,Nat.reduceLT,Nat.reduceBEq,reduceCtorEq]|refine aj ?_|refine ag (λ hb=> ?_) (λ hb=> ?_)|(refine And.intro ?_ ?_;exact zI)|refine And.intro (λ hg=> ?_) (λ hg=> ?_)|exact zC|fail)
  refine fa (mv:= ?mv5) (aJ:= ?le5) (x:= ?x5) (ass:= ?ass5) ?ha5 (htk) ?hr5 rfl ?hs5 ?hb5 ?hc5
  case ha5=>(try simp only[zY,Int.reduceEq,Int.reduceBEq,Int.reduceBNe,Nat.reduceSub,Nat.reduceEqDiff,Nat.reduceAdd,Nat.reduceMul,Nat.reduceLeDiff,Nat.reduceLT,Nat.reduceBEq,reduceCtorEq]);exact rfl
  case hr5=>simp[ea,eu]
  case hs5=>simp[cV,dq,dw,dG]
  case hb5=>(try simp only[zB,bA,Nat.reduceSub,Nat.reduceEqDiff,Nat.reduceAdd,Nat.reduceMul,Nat.reduceLeDiff,Nat.reduceLT,Nat.reduceBEq,reduceCtorEq]);repeat'(first|rfl|trivial|omega|with_reducible refine And.intro ?_ ?_)
  show aP _ _ _ _ _ _ _ _
  repeat'(first|(with_reducible first|refine aa _ _ ?_|refine ak ?_|refine ao ?_)|rw[af]|simp only[hw,h1,zY,Int.reduceEq,Int.reduceBEq,Int.reduceBNe,Nat.reduceSub,Nat.reduceEqDiff,Nat.reduceAdd,Nat.reduceMul,Nat.reduceLeDiff,Nat.reduceLT,Nat.reduceBEq,reduceCtorEq]|refine aj ?_|refine ag (λ hb=> ?_) (λ hb=> ?_)|(refine And.intro ?_ ?_;exact zI)|refine And.intro (λ hg=> ?_) (λ hg=> ?_)|exact zC|fail)
  simp only[l4,lZ,l5,oa];refine⟨⟨_,rfl⟩,rfl,⟨⟨_,rfl,rfl,rfl,rfl,rfl⟩,⟨_,rfl,rfl,rfl,rfl,rfl⟩,⟨_,rfl,rfl,rfl,rfl,rfl⟩,trivial⟩, ?_⟩;rw[show iT 30 [6,7,8] (tS (mb 177 3))=⟨[dd,dd,dd,dd,dd,dd, .one (.ptr ⟨6,0,0⟩ 0), .one (.ptr ⟨7,0,0⟩ 0), .one (.ptr ⟨8,0,0⟩ 0),dd,dd,dd,dd,dd,dd,dd,dd,dd,dd,dd,dd,dd,dd,dd,dd,dd,dd,dd,dd,dd],[(6,{next:=1,l:=[some {e:=0,var:=true,fz:=false,sz:=0,cells:=[dS .empty]}]}),(7,{next:=1,l:=[some {e:=0,var:=true,fz:=false,sz:=0,cells:=[di 0]}]}),(8,{next:=1,l:=[some {e:=0,var:=true,fz:=false,sz:=0,cells:=[di 3]}]})]⟩ from rfl];simp only[zB,Nat.reduceSub,Nat.reduceEqDiff,Nat.reduceAdd,Nat.reduceMul,Nat.reduceLeDiff,Nat.reduceLT,Nat.reduceBEq,reduceCtorEq]
theorem LW (n:Nat) (ds:List D) (p most:Int) (hl:ds.length=n) (hn:n<2^62) (hp:i64 p) (h:eS n p 1=true):
  ae prog 130 [.f (bE n ds), .f (ai p), .f (ai most)] (λ r o=>r=[.one (.d (sD .empty)),ri 0,ri 2]/\o=[]):=by
 refine kz aO mixed (T:=Ty) func130 rfl results130 ntmps130 call130 call166 (ks:=[6,7,8]) rfl rfl rfl rfl rfl rfl (by decide) (by decide)
  (xs:=[bE n ds,ai p,ai most]) rI rm ⟨[bE n ds,ai p,ai most,dd,dd,dd, .one (.ptr ⟨6,0,0⟩ 0), .one (.ptr ⟨7,0,0⟩ 0), .one (.ptr ⟨8,0,0⟩ 0),dd,dd,dd,dd,dd,dd,dd,dd,dd,dd,dd,dd,dd,dd,dd,dd,dd,dd,dd,dd,dd],[(6,{next:=1,l:=[some {e:=0,var:=true,fz:=false,sz:=0,cells:=[dS .empty]},none]}),(7,{next:=1,l:=[some {e:=0,var:=true,fz:=false,sz:=0,cells:=[di 0]},none]}),(8,{next:=1,l:=[some {e:=0,var:=true,fz:=false,sz:=0,cells:=[di 0]},none]})]⟩ ?_ ?_ rfl ?_
 .simp only[cJ,ff]
  repeat'(first|(with_reducible first|refine aa _ _ ?_|refine ak ?_|refine ao ?_)|rw[af]|simp only[zY,Int.reduceEq,Int.reduceBEq,Int.reduceBNe,Nat.reduceSub,Nat.reduceEqDiff,Nat.reduceAdd,Nat.reduceMul,Nat.reduceLeDiff,Nat.reduceLT,Nat.reduceBEq,reduceCtorEq]|refine aj ?_|refine ag (λ hb=> ?_) (λ hb=> ?_)|(refine And.intro ?_ ?_;exact zI)|refine And.intro (λ hg=> ?_) (λ hg=> ?_)|exact zC|fail)
  exact λ _ _ _ h=>h
 .exact⟨⟨_,rfl,rfl,rfl,rfl,rfl⟩,⟨_,rfl,rfl,rfl,rfl,rfl⟩,⟨_,rfl,rfl,rfl,rfl,rfl⟩,trivial⟩
 .have htk:=sa n ds p 1 hl hn hp h
  repeat'(first|(with_reducible first|refine aa _ _ ?_|refine ak ?_|refine ao ?_)|rw[af]|simp only[zY,Int.reduceEq,Int.reduceBEq,Int.reduceBNe,Nat.reduceSub,Nat.reduceEqDiff,Nat.reduceAdd,Nat.reduceMul,Nat.reduceLeDiff,Nat.reduceLT,Nat.reduceBEq,reduceCtorEq]|refine aj ?_|refine ag (λ hb=> ?_) (λ hb=> ?_)|(refine And.intro ?_ ?_;exact zI)|refine And.intro (λ hg=> ?_) (λ hg=> ?_)|exact zC|fail)
  refine rQ 0 (mv:= ?mv9) (aJ:= ?le9) (l':=jo n ds p) ?ha9 (htk) ?hb9 rfl ?hc9
  case ha9=>(try simp only[zY,Int.reduceEq,Int.reduceBEq,Int.reduceBNe,Nat.reduceSub,Nat.reduceEqDiff,Nat.reduceAdd,Nat.reduceMul,Nat.reduceLeDiff,Nat.reduceLT,Nat.reduceBEq,reduceCtorEq]);exact rfl
  case hb9=>(try simp only[zB,bA,Nat.reduceSub,Nat.reduceEqDiff,Nat.reduceAdd,Nat.reduceMul,Nat.reduceLeDiff,Nat.reduceLT,Nat.reduceBEq,reduceCtorEq]);repeat'(first|rfl|trivial|omega|with_reducible refine And.intro ?_ ?_)
  simp only[l4,lZ,l5,oa];refine⟨⟨_,rfl⟩,rfl,⟨⟨_,rfl,rfl,rfl,rfl,rfl⟩,⟨_,rfl,rfl,rfl,rfl,rfl⟩,⟨_,rfl,rfl,rfl,rfl,rfl⟩,trivial⟩, ?_⟩;rw[show iT 30 [6,7,8] (tS (mb 177 2))=⟨[dd,dd,dd,dd,dd,dd, .one (.ptr ⟨6,0,0⟩ 0), .one (.ptr ⟨7,0,0⟩ 0), .one (.ptr ⟨8,0,0⟩ 0),dd,dd,dd,dd,dd,dd,dd,dd,dd,dd,dd,dd,dd,dd,dd,dd,dd,dd,dd,dd,dd],[(6,{next:=1,l:=[some {e:=0,var:=true,fz:=false,sz:=0,cells:=[dS .empty]}]}),(7,{next:=1,l:=[some {e:=0,var:=true,fz:=false,sz:=0,cells:=[di 0]}]}),(8,{next:=1,l:=[some {e:=0,var:=true,fz:=false,sz:=0,cells:=[di 2]}]})]⟩ from rfl];simp only[zB,Nat.reduceSub,Nat.reduceEqDiff,Nat.reduceAdd,Nat.reduceMul,Nat.reduceLeDiff,Nat.reduceLT,Nat.reduceBEq,reduceCtorEq]
theorem Jd (n:Nat) (ds:List D) (p x:Nat) (most:Int) (rest:List D) (hl:ds.length=n) (hn:n<2^62) (hp:p+1≤n) (hat:ds.drop p= .v (.int .u8 (x:Int))::rest) (hx:x≤255) (hm:(x:Int)≤most)
  (hs:eS n ((p+1:Nat):Int) x=true):ae prog 130 [.f (bE n ds), .f (ai p), .f (ai most)] (λ r o=>r=[.one (.d (sD .empty)),ri 0,ri 2]/\o=[]):=by
 refine kz aO mixed (T:=Ty) func130 rfl results130 ntmps130 call130 call166 (ks:=[6,7,8]) rfl rfl rfl rfl rfl rfl (by decide) (by decide)
  (xs:=[bE n ds,ai p,ai most]) rI rm ⟨[bE n ds,ai p,ai most,dd,dd,dd, .one (.ptr ⟨6,0,0⟩ 0), .one (.ptr ⟨7,0,0⟩ 0), .one (.ptr ⟨8,0,0⟩ 0),dd,dd,dd,dd,dd,dd,dd,dd,dd,dd,dd,dd,dd,dd,dd,dd,dd,dd,dd,dd,dd],[(6,{next:=1,l:=[some {e:=0,var:=true,fz:=false,sz:=0,cells:=[dS .empty]},none]}),(7,{next:=1,l:=[some {e:=0,var:=true,fz:=false,sz:=0,cells:=[di 0]},none]}),(8,{next:=1,l:=[some {e:=0,var:=true,fz:=false,sz:=0,cells:=[di 0]},none]})]⟩ ?_ ?_ rfl ?_
 .simp only[cJ,ff]
  repeat'(first|(with_reducible first|refine aa _ _ ?_|refine ak ?_|refine ao ?_)|rw[af]|simp only[zY,Int.reduceEq,Int.reduceBEq,Int.reduceBNe,Nat.reduceSub,Nat.reduceEqDiff,Nat.reduceAdd,Nat.reduceMul,Nat.reduceLeDiff,Nat.reduceLT,Nat.reduceBEq,reduceCtorEq]|refine aj ?_|refine ag (λ hb=> ?_) (λ hb=> ?_)|(refine And.intro ?_ ?_;exact zI)|refine And.intro (λ hg=> ?_) (λ hg=> ?_)|exact zC|fail)
  exact λ _ _ _ h=>h
 .exact⟨⟨_,rfl,rfl,rfl,rfl,rfl⟩,⟨_,rfl,rfl,rfl,rfl,rfl⟩,⟨_,rfl,rfl,rfl,rfl,rfl⟩,trivial⟩
 .have htk:=oF n ds p 1 hl hn (by omega);rw[hat]at htk;have htk2:=sa n ds ((p+1:Nat):Int) x hl hn (by unfold i64;omega) hs;have hw:IntKind.i64.wrap (x:Int)=(x:Int):=wrap64 (by omega) (by omega);have h1:decide ((x:Int)>most)=false:=by simp;omega
  repeat'(first|(with_reducible first|refine aa _ _ ?_|refine ak ?_|refine ao ?_)|rw[af]|simp only[zY,Int.reduceEq,Int.reduceBEq,Int.reduceBNe,Nat.reduceSub,Nat.reduceEqDiff,Nat.reduceAdd,Nat.reduceMul,Nat.reduceLeDiff,Nat.reduceLT,Nat.reduceBEq,reduceCtorEq]|refine aj ?_|refine ag (λ hb=> ?_) (λ hb=> ?_)|(refine And.intro ?_ ?_;exact zI)|refine And.intro (λ hg=> ?_) (λ hg=> ?_)|exact zC|fail)
  refine fa (mv:= ?mv6) (aJ:= ?le6) (x:= ?x6) (ass:= ?ass6) ?ha6 (htk) ?hr6 rfl ?hs6 ?hb6 ?hc6
  case ha6=>(try simp only[zY,Int.reduceEq,Int.reduceBEq,Int.reduceBNe,Nat.reduceSub,Nat.reduceEqDiff,Nat.reduceAdd,Nat.reduceMul,Nat.reduceLeDiff,Nat.reduceLT,Nat.reduceBEq,reduceCtorEq]);exact rfl
  case hr6=>simp[ea,eu]
  case hs6=>simp[cV,dq,dw,dG]
  case hb6=>(try simp only[zB,bA,Nat.reduceSub,Nat.reduceEqDiff,Nat.reduceAdd,Nat.reduceMul,Nat.reduceLeDiff,Nat.reduceLT,Nat.reduceBEq,reduceCtorEq]);repeat'(first|rfl|trivial|omega|with_reducible refine And.intro ?_ ?_)
  show aP _ _ _ _ _ _ _ _
  repeat'(first|(with_reducible first|refine aa _ _ ?_|refine ak ?_|refine ao ?_)|rw[af]|simp only[hw,h1,zY,Int.reduceEq,Int.reduceBEq,Int.reduceBNe,Nat.reduceSub,Nat.reduceEqDiff,Nat.reduceAdd,Nat.reduceMul,Nat.reduceLeDiff,Nat.reduceLT,Nat.reduceBEq,reduceCtorEq]|refine aj ?_|refine ag (λ hb=> ?_) (λ hb=> ?_)|(refine And.intro ?_ ?_;exact zI)|refine And.intro (λ hg=> ?_) (λ hg=> ?_)|exact zC|fail)
  refine rQ 0 (mv:= ?mv10) (aJ:= ?le10) (l':=jo n ds p) ?ha10 (htk2) ?hb10 rfl ?hc10
  case ha10=>(try simp only[zY,Int.reduceEq,Int.reduceBEq,Int.reduceBNe,Nat.reduceSub,Nat.reduceEqDiff,Nat.reduceAdd,Nat.reduceMul,Nat.reduceLeDiff,Nat.reduceLT,Nat.reduceBEq,reduceCtorEq]);exact rfl
  case hb10=>(try simp only[zB,bA,Nat.reduceSub,Nat.reduceEqDiff,Nat.reduceAdd,Nat.reduceMul,Nat.reduceLeDiff,Nat.reduceLT,Nat.reduceBEq,reduceCtorEq]);repeat'(first|rfl|trivial|omega|with_reducible refine And.intro ?_ ?_)
  simp only[l4,lZ,l5,oa];refine⟨⟨_,rfl⟩,rfl,⟨⟨_,rfl,rfl,rfl,rfl,rfl⟩,⟨_,rfl,rfl,rfl,rfl,rfl⟩,⟨_,rfl,rfl,rfl,rfl,rfl⟩,trivial⟩, ?_⟩;rw[show iT 30 [6,7,8] (tS (mb 177 2))=⟨[dd,dd,dd,dd,dd,dd, .one (.ptr ⟨6,0,0⟩ 0), .one (.ptr ⟨7,0,0⟩ 0), .one (.ptr ⟨8,0,0⟩ 0),dd,dd,dd,dd,dd,dd,dd,dd,dd,dd,dd,dd,dd,dd,dd,dd,dd,dd,dd,dd,dd],[(6,{next:=1,l:=[some {e:=0,var:=true,fz:=false,sz:=0,cells:=[dS .empty]}]}),(7,{next:=1,l:=[some {e:=0,var:=true,fz:=false,sz:=0,cells:=[di 0]}]}),(8,{next:=1,l:=[some {e:=0,var:=true,fz:=false,sz:=0,cells:=[di 2]}]})]⟩ from rfl];simp only[zB,Nat.reduceSub,Nat.reduceEqDiff,Nat.reduceAdd,Nat.reduceMul,Nat.reduceLeDiff,Nat.reduceLT,Nat.reduceBEq,reduceCtorEq]
def bx (bs:List Int) (p:Int):Int×Int×Int:=if eS bs.length p 1=true then(0,0,2)else(bs.getD p.toNat 0,p+1,0)
def cD (bs:List Int) (p:Int):Int×Int×Int:=
 if eS bs.length p 8=true then(0,0,2)else if er ((bs.drop p.toNat).take 8)<4611686018427387904 then(er ((bs.drop p.toNat).take 8),p+8,0)else(0,0,4)
def dm (bs:List Int) (p most:Int):ByteArray×Int×Int:=
 if eS bs.length p 1=true then(.empty,0,2)else if¬bs.getD p.toNat 0≤most then(.empty,0,3)else
 if eS bs.length (p+1) (bs.getD p.toNat 0)=true then(.empty,0,2)else(qD ((bs.drop (p.toNat+1)).take (bs.getD p.toNat 0).toNat),p+1+bs.getD p.toNat 0,0)
theorem lr {n:Nat} {p k:Int} (h:eS n p k=false):0≤p/\p≤n/\k≤n - p:=by unfold eS at h;simp at h;omega
structure fF (bs:List Int):Prop where
 l:bs.length<2^60
 b:∀x∈bs,bp x
theorem mY (bs:List Int) (p:Int) (h:fF bs) (hp:i64 p):ae prog 87 [.f (bE bs.length (aI bs)), .f (ai p)] (λ r o=>r=[ri (bx bs p).1,ri (bx bs p).2.1,ri (bx bs p).2.2]/\o=[]):=by
 have hl:=h.l;cases hs:eS bs.length p 1
 .obtain⟨h1,h2,h3⟩:=lr hs;obtain⟨q,rfl⟩:=o8 h1;have hq:q<bs.length:=by omega
  have hb:=kC hq h.b;unfold bp at hb;rw[bx,ar (by rw[hs];simp)];have:=Mh bs.length (aI bs) q (bs.getD q 0) _ eG (by omega) hq (l8 hq) hb;simpa using this
 .rw[bx,ay hs];exact LA bs.length (aI bs) p eG (by omega) hp hs
theorem qa (bs:List Int) (p:Int) (h:fF bs) (hp:i64 p):ae prog 88 [.f (bE bs.length (aI bs)), .f (ai p)] (λ r o=>r=[ri (cD bs p).1,ri (cD bs p).2.1,ri (cD bs p).2.2]/\o=[]):=by
 have hl:=h.l;cases hs:eS bs.length p 8
 .obtain⟨h1,h2,h3⟩:=lr hs;obtain⟨q,rfl⟩:=o8 h1;rw[cD,ar (by rw[hs];simp)];have:=Mu bs.length (aI bs) q ((bs.drop q).take 8) eG (by omega) (by omega) (by rw[←lF,←nL]) (by rw[gR,jE];omega) (λ x hx=>h.b x (List.mem_of_mem_drop (qw hx)));simp only[gQ];split
  .rename_i hv;rw[ay hv]at this;exact this
  .rename_i hv;rw[ar hv]at this;exact this
 .rw[cD,ay hs];exact L2 bs.length (aI bs) p eG (by omega) hp hs
theorem A7 (bs:List Int) (p most:Int) (h:fF bs) (hp:i64 p):ae prog 130 [.f (bE bs.length (aI bs)), .f (ai p), .f (ai most)] (λ r o=>r=[.one (.d (sD (dm bs p most).1)),ri (dm bs p most).2.1,ri (dm bs p most).2.2]/\o=[]):=by
 have hl:=h.l;cases hs:eS bs.length p 1
 .obtain⟨h1,h2,h3⟩:=lr hs;obtain⟨q,rfl⟩:=o8 h1;have hq:q<bs.length:=by omega
  have hb:=kC hq h.b;unfold bp at hb;obtain⟨x,hx⟩:=o8 hb.1;have hat:=l8 hq;rw[hx]at hat;rw[dm,ar (by rw[hs];simp)];simp only[gQ,hx];by_cases hm:(x:Int)≤most
  .rw[ar (by simpa using hm)];cases hs2:eS bs.length ((q:Int)+1) (x:Int)
   .obtain⟨h4,h5,h6⟩:=lr hs2;rw[ar (by simp)];have:=L6 bs.length (aI bs) q x most ((bs.drop (q+1)).take x) _ eG (by omega) (by omega) hat (by omega) hm (by rw[←lF,←nL]) (by rw[gR,jE];omega);simpa using this
   .rw[ay rfl];exact Jd bs.length (aI bs) q x most _ eG (by omega) (by omega) hat (by omega) hm (by simpa using hs2)
  .rw[ay (by simpa using hm)];exact JN bs.length (aI bs) q x most _ eG (by omega) (by omega) hat (by omega) hm
 .rw[dm,ay hs];exact LW bs.length (aI bs) p most eG (by omega) hp hs
theorem mO {bs:List Int} {p:Int}:0≤(bx bs p).2.1/\(bx bs p).2.1≤bs.length:=by
 unfold bx;cases hs:eS bs.length p 1
 .obtain⟨h1,h2,h3⟩:=lr hs;rw[ar (by simp)];simp only;omega
 .rw[ay rfl];simp only;omega
theorem oh {bs:List Int} {p:Int}:0≤(cD bs p).2.1/\(cD bs p).2.1≤bs.length:=by
 unfold cD;cases hs:eS bs.length p 8
 .obtain⟨h1,h2,h3⟩:=lr hs;rw[ar (by simp)];split
  .simp only;omega
  .simp only;omega
 .rw[ay rfl];simp only;omega
theorem yb {bs:List Int} {p most:Int} (h:fF bs):0≤(dm bs p most).2.1/\(dm bs p most).2.1≤bs.length:=by
 unfold dm;cases hs:eS bs.length p 1
 .obtain⟨h1,h2,h3⟩:=lr hs;rw[ar (by simp)];have hb:=kC (i:=p.toNat) (by omega) h.b;unfold bp at hb;split
  .simp only;omega
  .cases hs2:eS bs.length (p+1) (bs.getD p.toNat 0)
   .obtain⟨h4,h5,h6⟩:=lr hs2;rw[ar (by simp)];simp only;omega
   .rw[ay rfl];simp only;omega
 .rw[ay rfl];simp only;omega
end Go.Proofs.YtiegkabcgokhkaaGreat
