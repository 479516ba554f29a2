import Derived.Test.YtjdbaocjeeficaaGreatTy
import Derived.Test.YtjdbaocjeeficaaGreatK9
import Derived.KernelRfl
set_option maxHeartbeats 8000000
namespace Go.Proofs.YtjdbaocjeeficaaGreat
open Go.Pk Tryz
set_option maxRecDepth 100000
set_option linter.unusedSimpArgs false
set_option linter.unusedVariables false
theorem E4:(([208,170,418,410]:List Nat)).all (rO prog)=true:=by kernel_rfl
theorem bm:bx prog Ty:=Ec λ t ht=>gT.1 E4 t ht
theorem mixed:prog.follows .mixedOrders=true:=by kernel_rfl
def Ef (c:UInt8):Bool:= !((decide ((c.toNat:Int)<97)||decide ((c.toNat:Int)>122))&&(decide ((c.toNat:Int)<48)||decide ((c.toNat:Int)>57))&&((c.toNat:Int) !=45))
def EX (s:ByteArray):Bool:=((List.range s.size).all λ j=>Ef (s.data.getD j 0))&&(decide ((s.size:Int)≥1)&&decide ((s.size:Int)≤12))
def E' (k n:Int) (s:ByteArray):Bool:=
 if(decide (k<1)||decide (k>6))=true then false else
 if((k==3||k==4||k==5)&& !EX s|| !(k==3||k==4||k==5)&& !s.toList==(⟨#[]⟩:ByteArray).toList)=true then false else
 if(k==1)=true then n==0 else decide (n≥1)&&decide (n≤2305843009213693952)
def ia.may (r:ia):Bool:=(decide (r.iY≥0)&&decide (r.iY<8)&&decide (r.seq≥1)&&decide (r.seq≤E5))&&E' r.kind r.kq r.name
def fH (n:Int):Prop:=0≤n/\n≤255
abbrev fB (l:List Int):List D:=l.map uD
def v8 (v:Int) (k:Nat):Int:=IntKind.u8.wrap (v.fdiv (2^(8*(7 - k))))
def yc (v:Int):List Int:=(List.range 8).map (v8 v)
abbrev Fz (v:Int) (i:Nat):List D:=(List.range 8).map λ k=>uD (if k<i then v8 v k else 0)
theorem ij {i n:Nat} (h:i<n) (hn:n<2^62):IntKind.i64.wrap ((i:Int)+1)=((i+1:Nat):Int):=by rw[wrap64 (by omega) (by omega)];rfl
abbrev E3 (s:ByteArray):List D:=s.data.toList.map λ b=>uD b.toNat
def EO (s:ByteArray):List D:=uD s.size::E3 s
def FG (ls:List (List D)) (i:Nat):List D:=if i=0 then dY [.int .u8 0] ls.flatten.length else(ls.take i).flatten
abbrev FC (ls:List (List D)):List D:=ls.map λ l=> .sl l.length l
def E9 (k n:Int) (s:ByteArray):List D:=fB [k]++(fB (yc n)++EO s)
def FJ (r:ia):List D:=fB [r.iY]++(fB (yc r.seq)++E9 r.kind r.kq r.name)
def dh (n:Int):Bool:=decide (n≥1)&&decide (n≤1000000)
theorem kj (n:Int):ag prog 78 [.f (ai n)] (λ r o=>r=[rb (dh n)]/\o=[]):=by
 refine bR bm mixed (T:=Ty) (n:=9) func78 (c:=f78.body.getD .skip) rfl results78 ntmps78 call78 ?_;simp only[f78,Option.getD]
 repeat'(first|(with_reducible first|refine ay _ _ ?_|refine aD ?_|refine aE ?_)|rw[aB]|simp only[zY,Int.reduceEq,Int.reduceBEq,Int.reduceBNe,Nat.reduceSub,Nat.reduceEqDiff,Nat.reduceAdd,Nat.reduceMul,Nat.reduceLeDiff,Nat.reduceLT,Nat.reduceBEq,reduceCtorEq]|refine aC ?_|refine aA (λ hb=> ?_) (λ hb=> ?_)|(refine And.intro ?_ ?_;exact zI)|refine And.intro (λ hg=> ?_) (λ hg=> ?_)|exact zC|fail)
 rfl
structure bd where
 aU:Int
 bQ:Int
 bg:Int
 cu:Int
 base:Int
 cap:Int
 bO:Int
 wait:Int
 bF:Int
 bN:Int
 aT:Int
abbrev bd.enc (c:bd):List D:=[iD c.aU,iD c.bQ,iD c.bg,iD c.cu,iD c.base,iD c.cap,iD c.bO,iD c.wait,iD c.bF,iD c.bN,iD c.aT]
structure Fq (c:bd):Prop where
 r:1≤c.aU/\c.aU≤7/\c.aU % 2=1
 cl:1≤c.bQ/\c.bQ≤8
 bg:dh c.bg=true
 base:dh c.base=true
 cap:dh c.cap=true
 bO:dh c.bO=true
 bF:dh c.bF=true
 bN:dh c.bN=true
 aT:dh c.aT=true
 wait:0≤c.wait/\c.wait≤1000000
 bc:c.base≤c.cap
 cu:0≤c.cu/\c.cu≤200
def wM:bd:=⟨3,3,60,100,10,40,3,1,5,6,8⟩
def kQ:List Int:=[3,1,5,3,7,3]
def fx (c:bd) (i:Nat) (n:Int):bd:=
 match i with
 |0=>{c with aU:=kQ.getD (n % 6).toNat 0}
 |1=>{c with bQ:=1+n % 5}
 |2=>{c with base:=1+n % 20}
 |3=>{c with cap:=c.base+n % 60}
 |4=>{c with bO:=1+n % 6}
 |5=>{c with wait:=n % 4}
 |6=>{c with bF:=1+n % 9}
 |7=>{c with bN:=1+n % 9}
 |8=>{c with aT:=1+n % 12}
 |9=>{c with bg:=1+n}
 |_=>{c with cu:=n % 201}
def eg (ns:List Int):Nat->bd
 |0=>wM
 |i+1=>fx (eg ns i) i (ns.getD i 0)
def qL (ns:List Int):bd:=eg ns (min ns.length 11)
structure ov (c:bd):Prop where
 r:c.aU=1∨c.aU=3∨c.aU=5∨c.aU=7
 cl:1≤c.bQ/\c.bQ≤5
 bg:1≤c.bg/\c.bg≤256
 cu:0≤c.cu/\c.cu≤200
 base:1≤c.base/\c.base≤20
 cap:1≤c.cap/\c.cap≤79
 bO:1≤c.bO/\c.bO≤6
 wait:0≤c.wait/\c.wait≤3
 bF:1≤c.bF/\c.bF≤9
 bN:1≤c.bN/\c.bN≤9
 aT:1≤c.aT/\c.aT≤12
theorem D2 (n:Int):kQ.getD (n % 6).toNat 0=1∨kQ.getD (n % 6).toNat 0=3∨kQ.getD (n % 6).toNat 0=5∨kQ.getD (n % 6).toNat 0=7:=by rcases(show n % 6=0∨n % 6=1∨n % 6=2∨n % 6=3∨n % 6=4∨n % 6=5 by omega)with h|h|h|h|h|h<;>rw[h]<;>decide
theorem A4 {c:bd} (h:ov c) {i:Nat} {n:Int} (hn:fH n):ov (fx c i n):=by
 unfold fH at hn;obtain⟨h1,h2,h3,h4,h5,h6,h7,h8,h9,h10,h11⟩:=h;unfold fx;split
 .exact⟨D2 n,h2,h3,h4,h5,h6,h7,h8,h9,h10,h11⟩
 .exact⟨h1,by simp only;omega,h3,h4,h5,h6,h7,h8,h9,h10,h11⟩
 .exact⟨h1,h2,h3,h4,by simp only;omega,h6,h7,h8,h9,h10,h11⟩
 .exact⟨h1,h2,h3,h4,h5,by simp only;omega,h7,h8,h9,h10,h11⟩
 .exact⟨h1,h2,h3,h4,h5,h6,by simp only;omega,h8,h9,h10,h11⟩
 .exact⟨h1,h2,h3,h4,h5,h6,h7,by simp only;omega,h9,h10,h11⟩
 .exact⟨h1,h2,h3,h4,h5,h6,h7,h8,by simp only;omega,h10,h11⟩
 .exact⟨h1,h2,h3,h4,h5,h6,h7,h8,h9,by simp only;omega,h11⟩
 .exact⟨h1,h2,h3,h4,h5,h6,h7,h8,h9,h10,by simp only;omega⟩
 .exact⟨h1,h2,by simp only;omega,h4,h5,h6,h7,h8,h9,h10,h11⟩
 .exact⟨h1,h2,h3,by simp only;omega,h5,h6,h7,h8,h9,h10,h11⟩
theorem Dd:ov wM:=⟨.inr (.inl rfl),by decide,by decide,by decide,by decide,by decide,by decide,by decide,by decide,by decide,by decide⟩
theorem uq {ns:List Int} (hn:∀n∈ns,fH n):∀i,ov (eg ns i)
 |0=>Dd
 |i+1=>A4 (uq hn i) (by
   rw[fe];cases h:ns[i]? with
   |none=>exact⟨by decide,by decide⟩
   |some x=>exact hn _ (kF h))
theorem tO {l:List Int} {i:Nat} (hi:i<l.length):(fB l).drop i=uD (l.getD i 0)::fB (l.drop (i+1)):=by rw[←List.map_drop,List.drop_eq_getElem_cons hi,fe,gy hi];rfl
theorem gE {l:List Int}:(fB l).length=l.length:=by simp
theorem BJ {c:bd} {i:Nat} {n:Int} (e:i=0):fx c i n={c with aU:=kQ.getD (n % 6).toNat 0}:=by subst e;rfl
theorem Ce {c:bd} {i:Nat} {n:Int} (e:i=1):fx c i n={c with bQ:=1+n % 5}:=by subst e;rfl
theorem Cm {c:bd} {i:Nat} {n:Int} (e:i=2):fx c i n={c with base:=1+n % 20}:=by subst e;rfl
theorem B1 {c:bd} {i:Nat} {n:Int} (e:i=3):fx c i n={c with cap:=c.base+n % 60}:=by subst e;rfl
theorem Cj {c:bd} {i:Nat} {n:Int} (e:i=4):fx c i n={c with bO:=1+n % 6}:=by subst e;rfl
theorem B7 {c:bd} {i:Nat} {n:Int} (e:i=5):fx c i n={c with wait:=n % 4}:=by subst e;rfl
theorem Ch {c:bd} {i:Nat} {n:Int} (e:i=6):fx c i n={c with bF:=1+n % 9}:=by subst e;rfl
theorem BX {c:bd} {i:Nat} {n:Int} (e:i=7):fx c i n={c with bN:=1+n % 9}:=by subst e;rfl
theorem Cc {c:bd} {i:Nat} {n:Int} (e:i=8):fx c i n={c with aT:=1+n % 12}:=by subst e;rfl
theorem BL {c:bd} {i:Nat} {n:Int} (e:i=9):fx c i n={c with bg:=1+n}:=by subst e;rfl
theorem Bi {c:bd} {i:Nat} {n:Int} (e:i=10):fx c i n={c with cu:=n % 201}:=by subst e;rfl
theorem BQ {m:Nat} (hm6:m<6):List.drop m [di 3,di 1,di 5,di 3,di 7,di 3]=di (kQ.getD m 0)::List.drop (m+1) [di 3,di 1,di 5,di 3,di 7,di 3]:=by rcases(show m=0∨m=1∨m=2∨m=3∨m=4∨m=5 by omega)with h|h|h|h|h|h<;>rw[h]<;>rfl
theorem Ds (ns:List Int) (hl:ns.length<2^60) (hn:∀n∈ns,fH n):ag prog 10 [.f (al ns.length (fB ns))] (λ r o=>r=[.agg ((qL ns).enc.map RO.d)]/\o=[]):=by
 refine bR bm mixed (T:=Ty) (n:=89) func10 (c:=f10.body.getD .skip) rfl results10 ntmps10 call10 ?_;simp only[f10,Option.getD]
 repeat'(first|(with_reducible first|refine ay _ _ ?_|refine aD ?_|refine aE ?_)|rw[aB]|simp only[zY,Int.reduceEq,Int.reduceBEq,Int.reduceBNe,Nat.reduceSub,Nat.reduceEqDiff,Nat.reduceAdd,Nat.reduceMul,Nat.reduceLeDiff,Nat.reduceLT,Nat.reduceBEq,reduceCtorEq]|refine aC ?_|refine aA (λ hb=> ?_) (λ hb=> ?_)|(refine And.intro ?_ ?_;exact zI)|refine And.intro (λ hg=> ?_) (λ hg=> ?_)|exact zC|fail)
 refine ll (τ:=Nat) (λ i=>⟨[al ns.length (fB ns),dd, .one (.ptr ⟨2,0,1⟩ 0), .one (.ptr ⟨3,0,1⟩ 0),ai i,dd,dd,dd,dd,dd,dd,dd,dd,dd,dd,dd,dd,dd,dd,dd,dd,dd,dd,dd,dd,dd,dd,dd,dd,dd,dd,dd,dd,dd,dd,dd,dd,dd,dd,dd,dd,dd,dd,dd,dd,dd,dd,dd,dd,dd,dd,dd,dd,dd,dd,dd,dd,dd,dd,dd,dd,dd,dd,dd,dd,dd,dd,dd,dd,dd,dd,dd,dd,dd,dd,dd,dd,dd,dd,dd,dd,dd,dd,dd,dd,dd,dd,dd,dd],[(2,{next:=2,l:=[some {e:=1,var:=true,fz:=false,sz:=0,cells:=[di 0,di 0,di 0,di 0,di 0,di 0,di 0,di 0,di 0,di 0,di 0]},none,none,none,none,none,none,none,none,none,none,none]}),(3,{next:=2,l:=[some {e:=1,var:=true,fz:=false,sz:=0,cells:=[di (eg ns i).aU,di (eg ns i).bQ,di (eg ns i).bg,di (eg ns i).cu,di (eg ns i).base,di (eg ns i).cap,di (eg ns i).bO,di (eg ns i).wait,di (eg ns i).bF,di (eg ns i).bN,di (eg ns i).aT]},none,none,none,none,none,none,none,none,none,none,none]}),(28,⟨2,[]⟩)]⟩)
  (λ i=>i≤ns.length/\i≤11) (λ _=>()) (λ i=>ns.length - i) 0
  (Gh.canon [2,3] [28] [] zK rfl rfl) ⟨kC _,kC _⟩ ?_
 intro i ⟨hi0,hi1⟩ hF K hK
 repeat(first|with_reducible refine ay _ _ ?_|with_reducible refine lM (ay _ _) ?_|with_reducible refine lM (lM (ay _ _)) ?_|with_reducible refine lM (lM (lM (ay _ _))) ?_|rw[aB]|simp only[zB,Nat.reduceSub,Nat.reduceEqDiff,Nat.reduceAdd,Nat.reduceMul,Nat.reduceLeDiff,Nat.reduceLT,Nat.reduceBEq,reduceCtorEq])
 refine aA (λ hlt=> ?_) (λ hge=> ?_)
 .have hlt2:i<ns.length/\i<11:=by simp at hlt;omega
  obtain⟨hi,hi2⟩:=hlt2;have hat:=tO hi;have hw:=ij hi (by omega);have hd:fH (ns.getD i 0):=by rw[fe,gy hi];exact hn _ (List.getElem_mem hi)
  have hd2:=hd;unfold fH at hd2;have hci:=uq hn i;obtain⟨_,_,_,_,hcb,_,_,_,_,_,_⟩:=hci;have hwb:IntKind.i64.wrap (ns.getD i 0)=ns.getD i 0:=wrap64 (by omega) (by omega);have tm:∀k,(ns.getD i 0).tmod k=ns.getD i 0 % k:=λ k=>jS hd2.1
  have w1:IntKind.i64.wrap (1+ns.getD i 0 % 5)=1+ns.getD i 0 % 5:=wrap64 (by omega) (by omega);have w2:IntKind.i64.wrap (1+ns.getD i 0 % 20)=1+ns.getD i 0 % 20:=wrap64 (by omega) (by omega);have w3:IntKind.i64.wrap ((eg ns i).base+ns.getD i 0 % 60)=(eg ns i).base+ns.getD i 0 % 60:=wrap64 (by omega) (by omega);have w4:IntKind.i64.wrap (1+ns.getD i 0 % 6)=1+ns.getD i 0 % 6:=wrap64 (by omega) (by omega);have w6:IntKind.i64.wrap (1+ns.getD i 0 % 9)=1+ns.getD i 0 % 9:=wrap64 (by omega) (by omega);have w8:IntKind.i64.wrap (1+ns.getD i 0 % 12)=1+ns.getD i 0 % 12:=wrap64 (by omega) (by omega);have w9:IntKind.i64.wrap (1+ns.getD i 0)=1+ns.getD i 0:=wrap64 (by omega) (by omega);have qn:∀k:Int,(i:Int)≠k->((i:Int)==k)=false:=λ k h=>by simpa using h
  have qy:∀k:Int,(i:Int)=k->((i:Int)==k)=true:=λ k h=>by simpa using h
  have hcs:eg ns (i+1)=fx (eg ns i) i (ns.getD i 0):=rfl;obtain⟨c,hc⟩:∃c,c=eg ns i:=⟨_,rfl⟩;rw[←hc]at hcs hcb w3⊢;obtain⟨n,hnn⟩:∃n,n=ns.getD i 0:=⟨_,rfl⟩;rw[←hnn]at hat hd hd2 hwb tm w1 w2 w3 w4 w6 w8 w9 hcs;clear hnn hc hn;rcases(show i=0∨i=1∨i=2∨i=3∨i=4∨i=5∨i=6∨i=7∨i=8∨i=9∨i=10 by omega)with e|e|e|e|e|e|e|e|e|e|e
  .have hcs:=hcs.trans (BJ e);obtain⟨m,hm⟩:∃m:Nat,m=(n % 6).toNat:=⟨_,rfl⟩;have hm6:m<6:=by omega
   have hme:n % 6=(m:Int):=by omega
   rw[←hm]at hcs;clear hm
   repeat'(first|(with_reducible first|refine ay _ _ ?_|refine aD ?_|refine aE ?_)|rw[aB]|simp only[hat,hwb,tm,hme,BQ hm6,qy 0 (by omega),gE,zY,Int.reduceEq,Int.reduceBEq,Int.reduceBNe,Nat.reduceSub,Nat.reduceEqDiff,Nat.reduceAdd,Nat.reduceMul,Nat.reduceLeDiff,Nat.reduceLT,Nat.reduceBEq,reduceCtorEq]|refine aC ?_|refine aA (λ hb=> ?_) (λ hb=> ?_)|(refine And.intro ?_ ?_;exact zJ)|refine And.intro (λ hg=> ?_) (λ hg=> ?_)|exact zC|fail)
   exact hK _ (i+1) (Gh.canon [2,3] [] [] (by simp only[hw,cw,cC,cG,cB,cE,cF,cD,cm,cn,cc,ca,cA,cJ,D.v.injEq,cH];try(repeat'(first|rfl|omega|with_reducible apply And.intro))) rfl (by rw[hcs];rfl)) ⟨by omega,by omega⟩ rfl (by omega)
  .have hcs:=hcs.trans (Ce e)
   repeat'(first|(with_reducible first|refine ay _ _ ?_|refine aD ?_|refine aE ?_)|rw[aB]|simp only[hat,hwb,tm,w1,qn 0 (by omega),qy 1 (by omega),gE,zY,Int.reduceEq,Int.reduceBEq,Int.reduceBNe,Nat.reduceSub,Nat.reduceEqDiff,Nat.reduceAdd,Nat.reduceMul,Nat.reduceLeDiff,Nat.reduceLT,Nat.reduceBEq,reduceCtorEq]|refine aC ?_|refine aA (λ hb=> ?_) (λ hb=> ?_)|(refine And.intro ?_ ?_;exact zJ)|refine And.intro (λ hg=> ?_) (λ hg=> ?_)|exact zC|fail)
   exact hK _ (i+1) (Gh.canon [2,3] [] [] (by simp only[hw,cw,cC,cG,cB,cE,cF,cD,cm,cn,cc,ca,cA,cJ,D.v.injEq,cH];try(repeat'(first|rfl|omega|with_reducible apply And.intro))) rfl (by rw[hcs];rfl)) ⟨by omega,by omega⟩ rfl (by omega)
  .have hcs:=hcs.trans (Cm e)
   repeat'(first|(with_reducible first|refine ay _ _ ?_|refine aD ?_|refine aE ?_)|rw[aB]|simp only[hat,hwb,tm,w2,qn 0 (by omega),qn 1 (by omega),qy 2 (by omega),gE,zY,Int.reduceEq,Int.reduceBEq,Int.reduceBNe,Nat.reduceSub,Nat.reduceEqDiff,Nat.reduceAdd,Nat.reduceMul,Nat.reduceLeDiff,Nat.reduceLT,Nat.reduceBEq,reduceCtorEq]|refine aC ?_|refine aA (λ hb=> ?_) (λ hb=> ?_)|(refine And.intro ?_ ?_;exact zJ)|refine And.intro (λ hg=> ?_) (λ hg=> ?_)|exact zC|fail)
   exact hK _ (i+1) (Gh.canon [2,3] [] [] (by simp only[hw,cw,cC,cG,cB,cE,cF,cD,cm,cn,cc,ca,cA,cJ,D.v.injEq,cH];try(repeat'(first|rfl|omega|with_reducible apply And.intro))) rfl (by rw[hcs];rfl)) ⟨by omega,by omega⟩ rfl (by omega)
  .have hcs:=hcs.trans (B1 e)
   repeat'(first|(with_reducible first|refine ay _ _ ?_|refine aD ?_|refine aE ?_)|rw[aB]|simp only[hat,hwb,tm,w3,qn 0 (by omega),qn 1 (by omega),qn 2 (by omega),qy 3 (by omega),gE,zY,Int.reduceEq,Int.reduceBEq,Int.reduceBNe,Nat.reduceSub,Nat.reduceEqDiff,Nat.reduceAdd,Nat.reduceMul,Nat.reduceLeDiff,Nat.reduceLT,Nat.reduceBEq,reduceCtorEq]|refine aC ?_|refine aA (λ hb=> ?_) (λ hb=> ?_)|(refine And.intro ?_ ?_;exact zJ)|refine And.intro (λ hg=> ?_) (λ hg=> ?_)|exact zC|fail)
   exact hK _ (i+1) (Gh.canon [2,3] [] [] (by simp only[hw,cw,cC,cG,cB,cE,cF,cD,cm,cn,cc,ca,cA,cJ,D.v.injEq,cH];try(repeat'(first|rfl|omega|with_reducible apply And.intro))) rfl (by rw[hcs];rfl)) ⟨by omega,by omega⟩ rfl (by omega)
  .have hcs:=hcs.trans (Cj e)
   repeat'(first|(with_reducible first|refine ay _ _ ?_|refine aD ?_|refine aE ?_)|rw[aB]|simp only[hat,hwb,tm,w4,qn 0 (by omega),qn 1 (by omega),qn 2 (by omega),qn 3 (by omega),qy 4 (by omega),gE,zY,Int.reduceEq,Int.reduceBEq,Int.reduceBNe,Nat.reduceSub,Nat.reduceEqDiff,Nat.reduceAdd,Nat.reduceMul,Nat.reduceLeDiff,Nat.reduceLT,Nat.reduceBEq,reduceCtorEq]|refine aC ?_|refine aA (λ hb=> ?_) (λ hb=> ?_)|(refine And.intro ?_ ?_;exact zJ)|refine And.intro (λ hg=> ?_) (λ hg=> ?_)|exact zC|fail)
   exact hK _ (i+1) (Gh.canon [2,3] [] [] (by simp only[hw,cw,cC,cG,cB,cE,cF,cD,cm,cn,cc,ca,cA,cJ,D.v.injEq,cH];try(repeat'(first|rfl|omega|with_reducible apply And.intro))) rfl (by rw[hcs];rfl)) ⟨by omega,by omega⟩ rfl (by omega)
  .have hcs:=hcs.trans (B7 e)
   repeat'(first|(with_reducible first|refine ay _ _ ?_|refine aD ?_|refine aE ?_)|rw[aB]|simp only[hat,hwb,tm,qn 0 (by omega),qn 1 (by omega),qn 2 (by omega),qn 3 (by omega),qn 4 (by omega),qy 5 (by omega),gE,zY,Int.reduceEq,Int.reduceBEq,Int.reduceBNe,Nat.reduceSub,Nat.reduceEqDiff,Nat.reduceAdd,Nat.reduceMul,Nat.reduceLeDiff,Nat.reduceLT,Nat.reduceBEq,reduceCtorEq]|refine aC ?_|refine aA (λ hb=> ?_) (λ hb=> ?_)|(refine And.intro ?_ ?_;exact zJ)|refine And.intro (λ hg=> ?_) (λ hg=> ?_)|exact zC|fail)
   exact hK _ (i+1) (Gh.canon [2,3] [] [] (by simp only[hw,cw,cC,cG,cB,cE,cF,cD,cm,cn,cc,ca,cA,cJ,D.v.injEq,cH];try(repeat'(first|rfl|omega|with_reducible apply And.intro))) rfl (by rw[hcs];rfl)) ⟨by omega,by omega⟩ rfl (by omega)
  .have hcs:=hcs.trans (Ch e)
   repeat'(first|(with_reducible first|refine ay _ _ ?_|refine aD ?_|refine aE ?_)|rw[aB]|simp only[hat,hwb,tm,w6,qn 0 (by omega),qn 1 (by omega),qn 2 (by omega),qn 3 (by omega),qn 4 (by omega),qn 5 (by omega),qy 6 (by omega),gE,zY,Int.reduceEq,Int.reduceBEq,Int.reduceBNe,Nat.reduceSub,Nat.reduceEqDiff,Nat.reduceAdd,Nat.reduceMul,Nat.reduceLeDiff,Nat.reduceLT,Nat.reduceBEq,reduceCtorEq]|refine aC ?_|refine aA (λ hb=> ?_) (λ hb=> ?_)|(refine And.intro ?_ ?_;exact zJ)|refine And.intro (λ hg=> ?_) (λ hg=> ?_)|exact zC|fail)
   exact hK _ (i+1) (Gh.canon [2,3] [] [] (by simp only[hw,cw,cC,cG,cB,cE,cF,cD,cm,cn,cc,ca,cA,cJ,D.v.injEq,cH];try(repeat'(first|rfl|omega|with_reducible apply And.intro))) rfl (by rw[hcs];rfl)) ⟨by omega,by omega⟩ rfl (by omega)
  .have hcs:=hcs.trans (BX e)
   repeat'(first|(with_reducible first|refine ay _ _ ?_|refine aD ?_|refine aE ?_)|rw[aB]|simp only[hat,hwb,tm,w6,qn 0 (by omega),qn 1 (by omega),qn 2 (by omega),qn 3 (by omega),qn 4 (by omega),qn 5 (by omega),qn 6 (by omega),qy 7 (by omega),gE,zY,Int.reduceEq,Int.reduceBEq,Int.reduceBNe,Nat.reduceSub,Nat.reduceEqDiff,Nat.reduceAdd,Nat.reduceMul,Nat.reduceLeDiff,Nat.reduceLT,Nat.reduceBEq,reduceCtorEq]|refine aC ?_|refine aA (λ hb=> ?_) (λ hb=> ?_)|(refine And.intro ?_ ?_;exact zJ)|refine And.intro (λ hg=> ?_) (λ hg=> ?_)|exact zC|fail)
   exact hK _ (i+1) (Gh.canon [2,3] [] [] (by simp only[hw,cw,cC,cG,cB,cE,cF,cD,cm,cn,cc,ca,cA,cJ,D.v.injEq,cH];try(repeat'(first|rfl|omega|with_reducible apply And.intro))) rfl (by rw[hcs];rfl)) ⟨by omega,by omega⟩ rfl (by omega)
  .have hcs:=hcs.trans (Cc e)
   repeat'(first|(with_reducible first|refine ay _ _ ?_|refine aD ?_|refine aE ?_)|rw[aB]|simp only[hat,hwb,tm,w8,qn 0 (by omega),qn 1 (by omega),qn 2 (by omega),qn 3 (by omega),qn 4 (by omega),qn 5 (by omega),qn 6 (by omega),qn 7 (by omega),qy 8 (by omega),gE,zY,Int.reduceEq,Int.reduceBEq,Int.reduceBNe,Nat.reduceSub,Nat.reduceEqDiff,Nat.reduceAdd,Nat.reduceMul,Nat.reduceLeDiff,Nat.reduceLT,Nat.reduceBEq,reduceCtorEq]|refine aC ?_|refine aA (λ hb=> ?_) (λ hb=> ?_)|(refine And.intro ?_ ?_;exact zJ)|refine And.intro (λ hg=> ?_) (λ hg=> ?_)|exact zC|fail)
   exact hK _ (i+1) (Gh.canon [2,3] [] [] (by simp only[hw,cw,cC,cG,cB,cE,cF,cD,cm,cn,cc,ca,cA,cJ,D.v.injEq,cH];try(repeat'(first|rfl|omega|with_reducible apply And.intro))) rfl (by rw[hcs];rfl)) ⟨by omega,by omega⟩ rfl (by omega)
  .have hcs:=hcs.trans (BL e)
   repeat'(first|(with_reducible first|refine ay _ _ ?_|refine aD ?_|refine aE ?_)|rw[aB]|simp only[hat,hwb,tm,w9,qn 0 (by omega),qn 1 (by omega),qn 2 (by omega),qn 3 (by omega),qn 4 (by omega),qn 5 (by omega),qn 6 (by omega),qn 7 (by omega),qn 8 (by omega),qy 9 (by omega),gE,zY,Int.reduceEq,Int.reduceBEq,Int.reduceBNe,Nat.reduceSub,Nat.reduceEqDiff,Nat.reduceAdd,Nat.reduceMul,Nat.reduceLeDiff,Nat.reduceLT,Nat.reduceBEq,reduceCtorEq]|refine aC ?_|refine aA (λ hb=> ?_) (λ hb=> ?_)|(refine And.intro ?_ ?_;exact zJ)|refine And.intro (λ hg=> ?_) (λ hg=> ?_)|exact zC|fail)
   exact hK _ (i+1) (Gh.canon [2,3] [] [] (by simp only[hw,cw,cC,cG,cB,cE,cF,cD,cm,cn,cc,ca,cA,cJ,D.v.injEq,cH];try(repeat'(first|rfl|omega|with_reducible apply And.intro))) rfl (by rw[hcs];rfl)) ⟨by omega,by omega⟩ rfl (by omega)
  .have hcs:=hcs.trans (Bi e)
   repeat'(first|(with_reducible first|refine ay _ _ ?_|refine aD ?_|refine aE ?_)|rw[aB]|simp only[hat,hwb,tm,qn 0 (by omega),qn 1 (by omega),qn 2 (by omega),qn 3 (by omega),qn 4 (by omega),qn 5 (by omega),qn 6 (by omega),qn 7 (by omega),qn 8 (by omega),qn 9 (by omega),gE,zY,Int.reduceEq,Int.reduceBEq,Int.reduceBNe,Nat.reduceSub,Nat.reduceEqDiff,Nat.reduceAdd,Nat.reduceMul,Nat.reduceLeDiff,Nat.reduceLT,Nat.reduceBEq,reduceCtorEq]|refine aC ?_|refine aA (λ hb=> ?_) (λ hb=> ?_)|(refine And.intro ?_ ?_;exact zJ)|refine And.intro (λ hg=> ?_) (λ hg=> ?_)|exact zC|fail)
   exact hK _ (i+1) (Gh.canon [2,3] [] [] (by simp only[hw,cw,cC,cG,cB,cE,cF,cD,cm,cn,cc,ca,cA,cJ,D.v.injEq,cH];try(repeat'(first|rfl|omega|with_reducible apply And.intro))) rfl (by rw[hcs];rfl)) ⟨by omega,by omega⟩ rfl (by omega)
 .have hi:i=min ns.length 11:=by simp at hge;omega
  have hp:qL ns=eg ns i:=by rw[hi];rfl
  rw[hp]
  repeat'(first|(with_reducible first|refine ay _ _ ?_|refine aD ?_|refine aE ?_)|rw[aB]|simp only[zY,Int.reduceEq,Int.reduceBEq,Int.reduceBNe,Nat.reduceSub,Nat.reduceEqDiff,Nat.reduceAdd,Nat.reduceMul,Nat.reduceLeDiff,Nat.reduceLT,Nat.reduceBEq,reduceCtorEq]|refine aC ?_|refine aA (λ hb=> ?_) (λ hb=> ?_)|(refine And.intro ?_ ?_;exact zJ)|refine And.intro (λ hg=> ?_) (λ hg=> ?_)|exact zC|fail)
def dk (c:bd):List Int:=[c.bg,c.base,c.cap,c.bO,c.bF,c.bN,c.aT]
def iH (c:bd):Bool:=(((((decide (c.wait≥0)&&decide (c.wait≤1000000))&&decide (c.base≤c.cap))&&decide (c.cu≥0))&&decide (c.cu≤200)))
def iB (c:bd):Bool:=(c.aU==1||c.aU==3||c.aU==5||c.aU==7)&&decide (c.bQ≥1)&&decide (c.bQ≤8)
def cR (c:bd):Bool:=iB c&&((dk c).all dh&&iH c)
theorem yd {r:Int} (h1:1≤r) (h7:r≤7):(r.tmod 2==0)=false↔(r==1||r==3||r==5||r==7)=true:=by rw[jS (by omega)];simp;omega
theorem nq (c:bd):ag prog 54 [.f (.agg (c.enc.map C.d))] (λ x o=>x=[rb (cR c)]/\o=[]):=by
 refine bR bm mixed (T:=Ty) (n:=76) func54 (c:=f54.body.getD .skip) rfl results54 ntmps54 call54 ?_;simp only[f54,Option.getD];have hagg:∀(Z:List Nat) (r:Rs) (xs ys:List AV),dC Z r (AV.agg [di c.bg,di c.base,di c.cap,di c.bO,di c.bF,di c.bN,di c.aT]::xs) (AV.agg [di c.bg,di c.base,di c.cap,di c.bO,di c.bF,di c.bN,di c.aT]::ys)=dC Z r xs ys:=λ Z r xs ys=>uV rfl rfl
 cases hh:((((decide (c.aU<1)||decide (c.aU>7))||(c.aU.tmod 2==0))||decide (c.bQ<1))||decide (c.bQ>8))
 .have hH:iB c=true:=by simp only[Bool.or_eq_false_iff,iK]at hh;obtain⟨⟨⟨⟨h1,h2⟩,h3⟩,h4⟩,h5⟩:=hh;have h3:=(yd (by omega) (by omega)).1 h3;unfold iB;rw[h3];simp;omega
  have hB:cR c=((dk c).all dh&&iH c):=by unfold cR;rw[hH,iF]
  rw[hB]
  repeat'(first|(with_reducible first|refine ay _ _ ?_|refine aD ?_|refine aE ?_)|rw[aB]|simp only[hh,zY,Int.reduceEq,Int.reduceBEq,Int.reduceBNe,Nat.reduceSub,Nat.reduceEqDiff,Nat.reduceAdd,Nat.reduceMul,Nat.reduceLeDiff,Nat.reduceLT,Nat.reduceBEq,reduceCtorEq]|refine aC ?_|refine aA (λ hb=> ?_) (λ hb=> ?_)|(refine And.intro ?_ ?_;exact zI)|refine And.intro (λ hg=> ?_) (λ hg=> ?_)|exact zC|fail)
  refine ll (τ:=Nat) (λ i=>⟨[dd, .one (.ptr ⟨1,0,1⟩ 0),dd,dd,dd,dd,dd,dd,dd,dd,dd,dd,dd,dd,dd,dd,dd,dd,dd,dd,dd,dd,dd,dd,dd,dd,dd,dd,dd,dd,dd,dd,dd,dd,dd,dd,dd,dd,dd,dd,dd,dd,dd, .agg [di c.bg,di c.base,di c.cap,di c.bO,di c.bF,di c.bN,di c.aT],ai i,dd,dd,dd,dd,dd,dd,dd,dd,dd,dd,dd,dd,dd,dd,dd,dd,dd,dd,dd,dd,dd,dd,dd,dd,dd,dd,dd,dd,dd,dd,dd],[(1,{next:=2,l:=[some {e:=1,var:=true,fz:=false,sz:=0,cells:=[di c.aU,di c.bQ,di c.bg,di c.cu,di c.base,di c.cap,di c.bO,di c.wait,di c.bF,di c.bN,di c.aT]},none,none,none,none,none,none,none,none,none,none,none]})]⟩)
   (λ i=>i≤7) (λ i=>((dk c).drop i).all dh&&iH c) (λ i=>7 - i) 0
   (Gh.canon [1] [] [] (by simp only[hagg,cw,cC,cG,cB,cE,cF,cD,cm,cn,cc,ca,cA,cJ,D.v.injEq,cH];try(repeat'(first|rfl|omega|with_reducible apply And.intro))) rfl rfl) (kC _) ?_
  intro i hi0 hF K hK;simp only at hi0 hF hK⊢;have hF2:(((dk c).drop i).all dh&&iH c)=((dk c).all dh&&iH c):=hF;clear hF;cases hlt:decide ((i:Int)<7)
  .have:i=7:=by simp at hlt;omega
   subst this;rw[←hF2,show(dk c).drop 7=[] from rfl,List.all_nil,iF]
   repeat'(first|(with_reducible first|refine ay _ _ ?_|refine aD ?_|refine aE ?_)|rw[aB]|simp only[hlt,zY,Int.reduceEq,Int.reduceBEq,Int.reduceBNe,Nat.reduceSub,Nat.reduceEqDiff,Nat.reduceAdd,Nat.reduceMul,Nat.reduceLeDiff,Nat.reduceLT,Nat.reduceBEq,reduceCtorEq]|refine aC ?_|refine aA (λ hb=> ?_) (λ hb=> ?_)|(refine And.intro ?_ ?_;exact zI)|refine And.intro (λ hg=> ?_) (λ hg=> ?_)|exact zC|fail)
   rfl
  .have hi:i<7:=by simp at hlt;omega
   have hw:IntKind.i64.wrap ((i:Int)+1)=((i+1:Nat):Int):=ij hi (by omega);rcases(show i=0∨i=1∨i=2∨i=3∨i=4∨i=5∨i=6 by omega)with rfl|rfl|rfl|rfl|rfl|rfl|rfl
   .have hk:=kj c.bg;have hdr:(dk c).drop 0=c.bg::(dk c).drop 1:=rfl;cases hq:dh c.bg
    .rw[hq]at hk;rw[←hF2,hdr,dP,hq,eI,eI]
     repeat'(first|(with_reducible first|refine ay _ _ ?_|refine aD ?_|refine aE ?_)|rw[aB]|simp only[hlt,zY,Int.reduceEq,Int.reduceBEq,Int.reduceBNe,Nat.reduceSub,Nat.reduceEqDiff,Nat.reduceAdd,Nat.reduceMul,Nat.reduceLeDiff,Nat.reduceLT,Nat.reduceBEq,reduceCtorEq]|((first|((try refine aQ ?_);apply aS)|(apply aR;intro _));(solve|exact(hk)|(refine ag.le (hk) ?_;exact zM)|fail);try case hn=>rfl)|refine aC ?_|refine aA (λ hb=> ?_) (λ hb=> ?_)|(refine And.intro ?_ ?_;exact zI)|refine And.intro (λ hg=> ?_) (λ hg=> ?_)|exact zC|fail)
    .rw[hq]at hk
     repeat'(first|(with_reducible first|refine ay _ _ ?_|refine aD ?_|refine aE ?_)|rw[aB]|simp only[hlt,zY,Int.reduceEq,Int.reduceBEq,Int.reduceBNe,Nat.reduceSub,Nat.reduceEqDiff,Nat.reduceAdd,Nat.reduceMul,Nat.reduceLeDiff,Nat.reduceLT,Nat.reduceBEq,reduceCtorEq]|((first|((try refine aQ ?_);apply aS)|(apply aR;intro _));(solve|exact(hk)|(refine ag.le (hk) ?_;exact zM)|fail);try case hn=>rfl)|refine aC ?_|refine aA (λ hb=> ?_) (λ hb=> ?_)|(refine And.intro ?_ ?_;exact zI)|refine And.intro (λ hg=> ?_) (λ hg=> ?_)|exact zC|fail)
     exact hK _ 1 (Gh.canon [1] [] [] (by simp only[hw,hagg,cw,cC,cG,cB,cE,cF,cD,cm,cn,cc,ca,cA,cJ,D.v.injEq,cH];try(repeat'(first|rfl|omega|with_reducible apply And.intro))) rfl rfl) (by omega) (by rw[hdr,dP,hq,iF]) (by omega)
   .have hk:=kj c.base;have hdr:(dk c).drop 1=c.base::(dk c).drop 2:=rfl;cases hq:dh c.base
    .rw[hq]at hk;rw[←hF2,hdr,dP,hq,eI,eI]
     repeat'(first|(with_reducible first|refine ay _ _ ?_|refine aD ?_|refine aE ?_)|rw[aB]|simp only[hlt,zY,Int.reduceEq,Int.reduceBEq,Int.reduceBNe,Nat.reduceSub,Nat.reduceEqDiff,Nat.reduceAdd,Nat.reduceMul,Nat.reduceLeDiff,Nat.reduceLT,Nat.reduceBEq,reduceCtorEq]|((first|((try refine aQ ?_);apply aS)|(apply aR;intro _));(solve|exact(hk)|(refine ag.le (hk) ?_;exact zM)|fail);try case hn=>rfl)|refine aC ?_|refine aA (λ hb=> ?_) (λ hb=> ?_)|(refine And.intro ?_ ?_;exact zI)|refine And.intro (λ hg=> ?_) (λ hg=> ?_)|exact zC|fail)
    .rw[hq]at hk
     repeat'(first|(with_reducible first|refine ay _ _ ?_|refine aD ?_|refine aE ?_)|rw[aB]|simp only[hlt,zY,Int.reduceEq,Int.reduceBEq,Int.reduceBNe,Nat.reduceSub,Nat.reduceEqDiff,Nat.reduceAdd,Nat.reduceMul,Nat.reduceLeDiff,Nat.reduceLT,Nat.reduceBEq,reduceCtorEq]|((first|((try refine aQ ?_);apply aS)|(apply aR;intro _));(solve|exact(hk)|(refine ag.le (hk) ?_;exact zM)|fail);try case hn=>rfl)|refine aC ?_|refine aA (λ hb=> ?_) (λ hb=> ?_)|(refine And.intro ?_ ?_;exact zI)|refine And.intro (λ hg=> ?_) (λ hg=> ?_)|exact zC|fail)
     exact hK _ 2 (Gh.canon [1] [] [] (by simp only[hw,hagg,cw,cC,cG,cB,cE,cF,cD,cm,cn,cc,ca,cA,cJ,D.v.injEq,cH];try(repeat'(first|rfl|omega|with_reducible apply And.intro))) rfl rfl) (by omega) (by rw[hdr,dP,hq,iF]) (by omega)
   .have hk:=kj c.cap;have hdr:(dk c).drop 2=c.cap::(dk c).drop 3:=rfl;cases hq:dh c.cap
    .rw[hq]at hk;rw[←hF2,hdr,dP,hq,eI,eI]
     repeat'(first|(with_reducible first|refine ay _ _ ?_|refine aD ?_|refine aE ?_)|rw[aB]|simp only[hlt,zY,Int.reduceEq,Int.reduceBEq,Int.reduceBNe,Nat.reduceSub,Nat.reduceEqDiff,Nat.reduceAdd,Nat.reduceMul,Nat.reduceLeDiff,Nat.reduceLT,Nat.reduceBEq,reduceCtorEq]|((first|((try refine aQ ?_);apply aS)|(apply aR;intro _));(solve|exact(hk)|(refine ag.le (hk) ?_;exact zM)|fail);try case hn=>rfl)|refine aC ?_|refine aA (λ hb=> ?_) (λ hb=> ?_)|(refine And.intro ?_ ?_;exact zI)|refine And.intro (λ hg=> ?_) (λ hg=> ?_)|exact zC|fail)
    .rw[hq]at hk
     repeat'(first|(with_reducible first|refine ay _ _ ?_|refine aD ?_|refine aE ?_)|rw[aB]|simp only[hlt,zY,Int.reduceEq,Int.reduceBEq,Int.reduceBNe,Nat.reduceSub,Nat.reduceEqDiff,Nat.reduceAdd,Nat.reduceMul,Nat.reduceLeDiff,Nat.reduceLT,Nat.reduceBEq,reduceCtorEq]|((first|((try refine aQ ?_);apply aS)|(apply aR;intro _));(solve|exact(hk)|(refine ag.le (hk) ?_;exact zM)|fail);try case hn=>rfl)|refine aC ?_|refine aA (λ hb=> ?_) (λ hb=> ?_)|(refine And.intro ?_ ?_;exact zI)|refine And.intro (λ hg=> ?_) (λ hg=> ?_)|exact zC|fail)
     exact hK _ 3 (Gh.canon [1] [] [] (by simp only[hw,hagg,cw,cC,cG,cB,cE,cF,cD,cm,cn,cc,ca,cA,cJ,D.v.injEq,cH];try(repeat'(first|rfl|omega|with_reducible apply And.intro))) rfl rfl) (by omega) (by rw[hdr,dP,hq,iF]) (by omega)
   .have hk:=kj c.bO;have hdr:(dk c).drop 3=c.bO::(dk c).drop 4:=rfl;cases hq:dh c.bO
    .rw[hq]at hk;rw[←hF2,hdr,dP,hq,eI,eI]
     repeat'(first|(with_reducible first|refine ay _ _ ?_|refine aD ?_|refine aE ?_)|rw[aB]|simp only[hlt,zY,Int.reduceEq,Int.reduceBEq,Int.reduceBNe,Nat.reduceSub,Nat.reduceEqDiff,Nat.reduceAdd,Nat.reduceMul,Nat.reduceLeDiff,Nat.reduceLT,Nat.reduceBEq,reduceCtorEq]|((first|((try refine aQ ?_);apply aS)|(apply aR;intro _));(solve|exact(hk)|(refine ag.le (hk) ?_;exact zM)|fail);try case hn=>rfl)|refine aC ?_|refine aA (λ hb=> ?_) (λ hb=> ?_)|(refine And.intro ?_ ?_;exact zI)|refine And.intro (λ hg=> ?_) (λ hg=> ?_)|exact zC|fail)
    .rw[hq]at hk
     repeat'(first|(with_reducible first|refine ay _ _ ?_|refine aD ?_|refine aE ?_)|rw[aB]|simp only[hlt,zY,Int.reduceEq,Int.reduceBEq,Int.reduceBNe,Nat.reduceSub,Nat.reduceEqDiff,Nat.reduceAdd,Nat.reduceMul,Nat.reduceLeDiff,Nat.reduceLT,Nat.reduceBEq,reduceCtorEq]|((first|((try refine aQ ?_);apply aS)|(apply aR;intro _));(solve|exact(hk)|(refine ag.le (hk) ?_;exact zM)|fail);try case hn=>rfl)|refine aC ?_|refine aA (λ hb=> ?_) (λ hb=> ?_)|(refine And.intro ?_ ?_;exact zI)|refine And.intro (λ hg=> ?_) (λ hg=> ?_)|exact zC|fail)
     exact hK _ 4 (Gh.canon [1] [] [] (by simp only[hw,hagg,cw,cC,cG,cB,cE,cF,cD,cm,cn,cc,ca,cA,cJ,D.v.injEq,cH];try(repeat'(first|rfl|omega|with_reducible apply And.intro))) rfl rfl) (by omega) (by rw[hdr,dP,hq,iF]) (by omega)
   .have hk:=kj c.bF;have hdr:(dk c).drop 4=c.bF::(dk c).drop 5:=rfl;cases hq:dh c.bF
    .rw[hq]at hk;rw[←hF2,hdr,dP,hq,eI,eI]
     repeat'(first|(with_reducible first|refine ay _ _ ?_|refine aD ?_|refine aE ?_)|rw[aB]|simp only[hlt,zY,Int.reduceEq,Int.reduceBEq,Int.reduceBNe,Nat.reduceSub,Nat.reduceEqDiff,Nat.reduceAdd,Nat.reduceMul,Nat.reduceLeDiff,Nat.reduceLT,Nat.reduceBEq,reduceCtorEq]|((first|((try refine aQ ?_);apply aS)|(apply aR;intro _));(solve|exact(hk)|(refine ag.le (hk) ?_;exact zM)|fail);try case hn=>rfl)|refine aC ?_|refine aA (λ hb=> ?_) (λ hb=> ?_)|(refine And.intro ?_ ?_;exact zI)|refine And.intro (λ hg=> ?_) (λ hg=> ?_)|exact zC|fail)
    .rw[hq]at hk
     repeat'(first|(with_reducible first|refine ay _ _ ?_|refine aD ?_|refine aE ?_)|rw[aB]|simp only[hlt,zY,Int.reduceEq,Int.reduceBEq,Int.reduceBNe,Nat.reduceSub,Nat.reduceEqDiff,Nat.reduceAdd,Nat.reduceMul,Nat.reduceLeDiff,Nat.reduceLT,Nat.reduceBEq,reduceCtorEq]|((first|((try refine aQ ?_);apply aS)|(apply aR;intro _));(solve|exact(hk)|(refine ag.le (hk) ?_;exact zM)|fail);try case hn=>rfl)|refine aC ?_|refine aA (λ hb=> ?_) (λ hb=> ?_)|(refine And.intro ?_ ?_;exact zI)|refine And.intro (λ hg=> ?_) (λ hg=> ?_)|exact zC|fail)
     exact hK _ 5 (Gh.canon [1] [] [] (by simp only[hw,hagg,cw,cC,cG,cB,cE,cF,cD,cm,cn,cc,ca,cA,cJ,D.v.injEq,cH];try(repeat'(first|rfl|omega|with_reducible apply And.intro))) rfl rfl) (by omega) (by rw[hdr,dP,hq,iF]) (by omega)
   .have hk:=kj c.bN;have hdr:(dk c).drop 5=c.bN::(dk c).drop 6:=rfl;cases hq:dh c.bN
    .rw[hq]at hk;rw[←hF2,hdr,dP,hq,eI,eI]
     repeat'(first|(with_reducible first|refine ay _ _ ?_|refine aD ?_|refine aE ?_)|rw[aB]|simp only[hlt,zY,Int.reduceEq,Int.reduceBEq,Int.reduceBNe,Nat.reduceSub,Nat.reduceEqDiff,Nat.reduceAdd,Nat.reduceMul,Nat.reduceLeDiff,Nat.reduceLT,Nat.reduceBEq,reduceCtorEq]|((first|((try refine aQ ?_);apply aS)|(apply aR;intro _));(solve|exact(hk)|(refine ag.le (hk) ?_;exact zM)|fail);try case hn=>rfl)|refine aC ?_|refine aA (λ hb=> ?_) (λ hb=> ?_)|(refine And.intro ?_ ?_;exact zI)|refine And.intro (λ hg=> ?_) (λ hg=> ?_)|exact zC|fail)
    .rw[hq]at hk
     repeat'(first|(with_reducible first|refine ay _ _ ?_|refine aD ?_|refine aE ?_)|rw[aB]|simp only[hlt,zY,Int.reduceEq,Int.reduceBEq,Int.reduceBNe,Nat.reduceSub,Nat.reduceEqDiff,Nat.reduceAdd,Nat.reduceMul,Nat.reduceLeDiff,Nat.reduceLT,Nat.reduceBEq,reduceCtorEq]|((first|((try refine aQ ?_);apply aS)|(apply aR;intro _));(solve|exact(hk)|(refine ag.le (hk) ?_;exact zM)|fail);try case hn=>rfl)|refine aC ?_|refine aA (λ hb=> ?_) (λ hb=> ?_)|(refine And.intro ?_ ?_;exact zI)|refine And.intro (λ hg=> ?_) (λ hg=> ?_)|exact zC|fail)
     exact hK _ 6 (Gh.canon [1] [] [] (by simp only[hw,hagg,cw,cC,cG,cB,cE,cF,cD,cm,cn,cc,ca,cA,cJ,D.v.injEq,cH];try(repeat'(first|rfl|omega|with_reducible apply And.intro))) rfl rfl) (by omega) (by rw[hdr,dP,hq,iF]) (by omega)
   .have hk:=kj c.aT;have hdr:(dk c).drop 6=c.aT::(dk c).drop 7:=rfl;cases hq:dh c.aT
    .rw[hq]at hk;rw[←hF2,hdr,dP,hq,eI,eI]
     repeat'(first|(with_reducible first|refine ay _ _ ?_|refine aD ?_|refine aE ?_)|rw[aB]|simp only[hlt,zY,Int.reduceEq,Int.reduceBEq,Int.reduceBNe,Nat.reduceSub,Nat.reduceEqDiff,Nat.reduceAdd,Nat.reduceMul,Nat.reduceLeDiff,Nat.reduceLT,Nat.reduceBEq,reduceCtorEq]|((first|((try refine aQ ?_);apply aS)|(apply aR;intro _));(solve|exact(hk)|(refine ag.le (hk) ?_;exact zM)|fail);try case hn=>rfl)|refine aC ?_|refine aA (λ hb=> ?_) (λ hb=> ?_)|(refine And.intro ?_ ?_;exact zI)|refine And.intro (λ hg=> ?_) (λ hg=> ?_)|exact zC|fail)
    .rw[hq]at hk
     repeat'(first|(with_reducible first|refine ay _ _ ?_|refine aD ?_|refine aE ?_)|rw[aB]|simp only[hlt,zY,Int.reduceEq,Int.reduceBEq,Int.reduceBNe,Nat.reduceSub,Nat.reduceEqDiff,Nat.reduceAdd,Nat.reduceMul,Nat.reduceLeDiff,Nat.reduceLT,Nat.reduceBEq,reduceCtorEq]|((first|((try refine aQ ?_);apply aS)|(apply aR;intro _));(solve|exact(hk)|(refine ag.le (hk) ?_;exact zM)|fail);try case hn=>rfl)|refine aC ?_|refine aA (λ hb=> ?_) (λ hb=> ?_)|(refine And.intro ?_ ?_;exact zI)|refine And.intro (λ hg=> ?_) (λ hg=> ?_)|exact zC|fail)
     exact hK _ 7 (Gh.canon [1] [] [] (by simp only[hw,hagg,cw,cC,cG,cB,cE,cF,cD,cm,cn,cc,ca,cA,cJ,D.v.injEq,cH];try(repeat'(first|rfl|omega|with_reducible apply And.intro))) rfl rfl) (by omega) (by rw[hdr,dP,hq,iF]) (by omega)
 .have hB:cR c=false:=by
   unfold cR;rw[show iB c=false from ?_,eI];cases hH:iB c
   .rfl
   .unfold iB at hH;simp only[cg,dQ]at hH;obtain⟨⟨h1,h2⟩,h3⟩:=hH;have h4:1≤c.aU/\c.aU≤7:=by simp at h1;omega
    have h5:=(yd h4.1 h4.2).2 h1;rw[h5]at hh;simp at hh;omega
  rw[hB]
  repeat'(first|(with_reducible first|refine ay _ _ ?_|refine aD ?_|refine aE ?_)|rw[aB]|simp only[hh,zY,Int.reduceEq,Int.reduceBEq,Int.reduceBNe,Nat.reduceSub,Nat.reduceEqDiff,Nat.reduceAdd,Nat.reduceMul,Nat.reduceLeDiff,Nat.reduceLT,Nat.reduceBEq,reduceCtorEq]|refine aC ?_|refine aA (λ hb=> ?_) (λ hb=> ?_)|(refine And.intro ?_ ?_;exact zI)|refine And.intro (λ hg=> ?_) (λ hg=> ?_)|exact zC|fail)
theorem tN (v n:Int):ag prog 62 [.f (ai v), .f (ai n)] (λ r o=>r=[rb (decide (v≥n)&&decide (v≤1000000))]/\o=[]):=by
 refine bR bm mixed (T:=Ty) (n:=12) func62 (c:=f62.body.getD .skip) rfl results62 ntmps62 call62 ?_;simp only[f62,Option.getD]
 repeat'(first|(with_reducible first|refine ay _ _ ?_|refine aD ?_|refine aE ?_)|rw[aB]|simp only[zY,Int.reduceEq,Int.reduceBEq,Int.reduceBNe,Nat.reduceSub,Nat.reduceEqDiff,Nat.reduceAdd,Nat.reduceMul,Nat.reduceLeDiff,Nat.reduceLT,Nat.reduceBEq,reduceCtorEq]|refine aC ?_|refine aA (λ hb=> ?_) (λ hb=> ?_)|(refine And.intro ?_ ?_;exact zI)|refine And.intro (λ hg=> ?_) (λ hg=> ?_)|exact zC|fail)
theorem kb (c:bd):ag prog 42 [.f (.agg (c.enc.map C.d))] (λ x o=>x=[rb (cR c)]/\o=[]):=by
 refine bR bm mixed (T:=Ty) (n:=92) func42 (c:=f42.body.getD .skip) rfl results42 ntmps42 call42 ?_;simp only[f42,Option.getD];have ht:=λ v=>tN v 1
 have h0:=tN c.wait 0;have k1:=ht c.bg;have k2:=ht c.base;have k3:=ht c.cap;have k4:=ht c.bO;have k5:=ht c.bF;have k6:=ht c.bN;have k7:=ht c.aT
 repeat'(first|(with_reducible first|refine ay _ _ ?_|refine aD ?_|refine aE ?_)|rw[aB]|simp only[zY,Int.reduceEq,Int.reduceBEq,Int.reduceBNe,Nat.reduceSub,Nat.reduceEqDiff,Nat.reduceAdd,Nat.reduceMul,Nat.reduceLeDiff,Nat.reduceLT,Nat.reduceBEq,reduceCtorEq]|((first|((try refine aQ ?_);apply aS)|(apply aR;intro _));(solve|exact(k1)|exact(k2)|exact(k3)|exact(k4)|exact(k5)|exact(k6)|exact(k7)|exact(h0)|(refine ag.le (k1) ?_;exact zM)|(refine ag.le (k2) ?_;exact zM)|(refine ag.le (k3) ?_;exact zM)|(refine ag.le (k4) ?_;exact zM)|(refine ag.le (k5) ?_;exact zM)|(refine ag.le (k6) ?_;exact zM)|(refine ag.le (k7) ?_;exact zM)|(refine ag.le (h0) ?_;exact zM)|fail);try case hn=>rfl)|refine aC ?_|refine aA (λ hb=> ?_) (λ hb=> ?_)|(refine And.intro ?_ ?_;exact zI)|refine And.intro (λ hg=> ?_) (λ hg=> ?_)|exact zC|fail)
 .rw[show cR c=false from ?_];rw[Bool.eq_false_iff];simp only[cR,iB,dk,iH,dh,dP,List.all_nil,cg,jl,dQ,gx,bne_iff_ne,ne_eq]at hb⊢;omega
 .rw[show cR c=false from ?_];rw[Bool.eq_false_iff];simp only[cR,iB,dk,iH,dh,dP,List.all_nil,cg,jl,mG,oQ,iK,dQ,gx,ne_eq]at hb⊢;omega
 .rename_i h1;rw[show cR c=(decide (c.base≤c.cap)&&decide (c.cu≥0)&&decide (c.cu≤200)) from ?_];rw[Bool.eq_iff_iff];simp only[cR,iB,dk,iH,dh,dP,List.all_nil,cg,jl,Bool.or_eq_false_iff,Bool.not_eq_false',oQ,iK,dQ,gx,bne_eq_false_iff_eq,ne_eq]at hb h1⊢;exact⟨λ h=>⟨⟨h.2.2.1.1.2,h.2.2.1.2⟩,h.2.2.2⟩,λ h=>⟨⟨⟨h1.1.1,by omega⟩,by omega⟩,⟨hb.1.1.1.1.1.1.1,hb.1.1.1.1.1.1.2,hb.1.1.1.1.1.2,hb.1.1.1.1.2,hb.1.1.1.2,hb.1.1.2,hb.1.2,trivial⟩,⟨⟨hb.2,h.1.1⟩,h.1.2⟩,h.2⟩⟩
structure Fair where
 d:Int
 k:Int
 p:Int
abbrev Fair.enc (f:Fair):List D:=[iD f.d,iD f.k,iD f.p]
def ep (f:Fair):Bool:=((((decide (f.d≥1)&&decide (f.d≤100000))&&decide (f.k≥1))&&decide (f.k≤100000))&&decide (f.p≥1))&&decide (f.p≤1000)
abbrev Fair.l (f:Fair):List C:=f.enc.map C.d
theorem oq (f:Fair):ag prog 17 [.f (.agg f.l)] (λ r o=>r=[rb (ep f)]/\o=[]):=by
 refine bR bm mixed (T:=Ty) (n:=31) func17 (c:=f17.body.getD .skip) rfl results17 ntmps17 call17 ?_;simp only[f17,Option.getD]
 repeat'(first|(with_reducible first|refine ay _ _ ?_|refine aD ?_|refine aE ?_)|rw[aB]|simp only[zY,Int.reduceEq,Int.reduceBEq,Int.reduceBNe,Nat.reduceSub,Nat.reduceEqDiff,Nat.reduceAdd,Nat.reduceMul,Nat.reduceLeDiff,Nat.reduceLT,Nat.reduceBEq,reduceCtorEq]|refine aC ?_|refine aA (λ hb=> ?_) (λ hb=> ?_)|(refine And.intro ?_ ?_;exact zI)|refine And.intro (λ hg=> ?_) (λ hg=> ?_)|exact zC|fail)
 rfl
theorem jJ (f:Fair):ag prog 18 [.f (.agg f.l)] (λ r o=>r=[rb (ep f)]/\o=[]):=by
 refine bR bm mixed (T:=Ty) (n:=31) func18 (c:=f18.body.getD .skip) rfl results18 ntmps18 call18 ?_;simp only[f18,Option.getD]
 repeat'(first|(with_reducible first|refine ay _ _ ?_|refine aD ?_|refine aE ?_)|rw[aB]|simp only[zY,Int.reduceEq,Int.reduceBEq,Int.reduceBNe,Nat.reduceSub,Nat.reduceEqDiff,Nat.reduceAdd,Nat.reduceMul,Nat.reduceLeDiff,Nat.reduceLT,Nat.reduceBEq,reduceCtorEq]|refine aC ?_|refine aA (λ hb=> ?_) (λ hb=> ?_)|(refine And.intro ?_ ?_;exact zI)|refine And.intro (λ hg=> ?_) (λ hg=> ?_)|exact zC|fail)
 rfl
def bU (c:bd) (f:Fair):Bool:=cR c&&ep f
theorem jL (c:bd) (f:Fair):ag prog 35 [.f (.agg (c.enc.map C.d)), .f (.agg f.l)] (λ r o=>r=[rb (bU c f)]/\o=[]):=by
 refine bR bm mixed (T:=Ty) (n:=11) func35 (c:=f35.body.getD .skip) rfl results35 ntmps35 call35 ?_;simp only[f35,Option.getD];have h1:=nq c;have h2:=oq f
 repeat'(first|(with_reducible first|refine ay _ _ ?_|refine aD ?_|refine aE ?_)|rw[aB]|simp only[zY,Int.reduceEq,Int.reduceBEq,Int.reduceBNe,Nat.reduceSub,Nat.reduceEqDiff,Nat.reduceAdd,Nat.reduceMul,Nat.reduceLeDiff,Nat.reduceLT,Nat.reduceBEq,reduceCtorEq]|((first|((try refine aQ ?_);apply aS)|(apply aR;intro _));(solve|exact(h1)|exact(h2)|(refine ag.le (h1) ?_;exact zM)|(refine ag.le (h2) ?_;exact zM)|fail);try case hn=>rfl)|refine aC ?_|refine aA (λ hb=> ?_) (λ hb=> ?_)|(refine And.intro ?_ ?_;exact zI)|refine And.intro (λ hg=> ?_) (λ hg=> ?_)|exact zC|fail)
 rfl
abbrev W (n:Int):Int:=IntKind.i64.wrap n
def jQ (f:Fair) (t:Int):Int:=W (W (W (W ((W (3*t)).tdiv f.p)+4)*2)*f.k)
theorem oh (f:Fair) (t:Int) (hp:f.p≠0):ag prog 52 [.f (.agg f.l), .f (ai t)] (λ r o=>r=[ri (jQ f t)]/\o=[]):=by
 refine bR bm mixed (T:=Ty) (n:=15) func52 (c:=f52.body.getD .skip) rfl results52 ntmps52 call52 ?_;simp only[f52,Option.getD]
 repeat'(first|(with_reducible first|refine ay _ _ ?_|refine aD ?_|refine aE ?_)|rw[aB]|simp only[aj hp,zY,Int.reduceEq,Int.reduceBEq,Int.reduceBNe,Nat.reduceSub,Nat.reduceEqDiff,Nat.reduceAdd,Nat.reduceMul,Nat.reduceLeDiff,Nat.reduceLT,Nat.reduceBEq,reduceCtorEq]|refine aC ?_|refine aA (λ hb=> ?_) (λ hb=> ?_)|(refine And.intro ?_ ?_;exact zI)|refine And.intro (λ hg=> ?_) (λ hg=> ?_)|exact zC|fail)
 rfl
theorem nW (f:Fair) (t:Int) (hp:f.p≠0):ag prog 53 [.f (.agg f.l), .f (ai t)] (λ r o=>r=[ri (jQ f t)]/\o=[]):=by
 refine bR bm mixed (T:=Ty) (n:=15) func53 (c:=f53.body.getD .skip) rfl results53 ntmps53 call53 ?_;simp only[f53,Option.getD]
 repeat'(first|(with_reducible first|refine ay _ _ ?_|refine aD ?_|refine aE ?_)|rw[aB]|simp only[aj hp,zY,Int.reduceEq,Int.reduceBEq,Int.reduceBNe,Nat.reduceSub,Nat.reduceEqDiff,Nat.reduceAdd,Nat.reduceMul,Nat.reduceLeDiff,Nat.reduceLT,Nat.reduceBEq,reduceCtorEq]|refine aC ?_|refine aA (λ hb=> ?_) (λ hb=> ?_)|(refine And.intro ?_ ?_;exact zI)|refine And.intro (λ hg=> ?_) (λ hg=> ?_)|exact zC|fail)
 rfl
def dn (c:bd) (f:Fair):Int:=if bU c f=true then W (2*W (W (W (W (f.p*W (W (12*W (W (f.d.tdiv f.k)+1))+30))+W (8*c.bO))+W (2*c.bF))+W (2*c.wait)))else 0
theorem gS {c:bd} {f:Fair} (h:bU c f=true):f.p≠0/\f.k≠0:=by unfold bU ep at h;simp only[cg,dQ]at h;omega
theorem km (c:bd) (f:Fair):ag prog 19 [.f (.agg (c.enc.map C.d)), .f (.agg f.l)] (λ r o=>r=[ri (dn c f)]/\o=[]):=by
 refine bR bm mixed (T:=Ty) (n:=33) func19 (c:=f19.body.getD .skip) rfl results19 ntmps19 call19 ?_;simp only[f19,Option.getD];have h1:=jL c f;unfold dn;cases hm:bU c f
 .rw[hm]at h1;rw[aj (by simp)]
  repeat'(first|(with_reducible first|refine ay _ _ ?_|refine aD ?_|refine aE ?_)|rw[aB]|simp only[zY,Int.reduceEq,Int.reduceBEq,Int.reduceBNe,Nat.reduceSub,Nat.reduceEqDiff,Nat.reduceAdd,Nat.reduceMul,Nat.reduceLeDiff,Nat.reduceLT,Nat.reduceBEq,reduceCtorEq]|((first|((try refine aQ ?_);apply aS)|(apply aR;intro _));(solve|exact(h1)|(refine ag.le (h1) ?_;exact zM)|fail);try case hn=>rfl)|refine aC ?_|refine aA (λ hb=> ?_) (λ hb=> ?_)|(refine And.intro ?_ ?_;exact zI)|refine And.intro (λ hg=> ?_) (λ hg=> ?_)|exact zC|fail)
 .rw[hm]at h1;rw[ao rfl];obtain⟨hp,hk⟩:=gS hm
  repeat'(first|(with_reducible first|refine ay _ _ ?_|refine aD ?_|refine aE ?_)|rw[aB]|simp only[aj hk,zY,Int.reduceEq,Int.reduceBEq,Int.reduceBNe,Nat.reduceSub,Nat.reduceEqDiff,Nat.reduceAdd,Nat.reduceMul,Nat.reduceLeDiff,Nat.reduceLT,Nat.reduceBEq,reduceCtorEq]|((first|((try refine aQ ?_);apply aS)|(apply aR;intro _));(solve|exact(h1)|(refine ag.le (h1) ?_;exact zM)|fail);try case hn=>rfl)|refine aC ?_|refine aA (λ hb=> ?_) (λ hb=> ?_)|(refine And.intro ?_ ?_;exact zI)|refine And.intro (λ hg=> ?_) (λ hg=> ?_)|exact zC|fail)
theorem n7 (c:bd) (f:Fair):ag prog 20 [.f (.agg (c.enc.map C.d)), .f (.agg f.l)] (λ r o=>r=[ri (dn c f)]/\o=[]):=by
 refine bR bm mixed (T:=Ty) (n:=37) func20 (c:=f20.body.getD .skip) rfl results20 ntmps20 call20 ?_;simp only[f20,Option.getD];have h1:=kb c;have h2:=jJ f;unfold dn;cases hm:bU c f
 .have hq:(!cR c|| !ep f)=true:=by unfold bU at hm;rw[←gX,hm];rfl
  rw[aj (by simp)]
  repeat'(first|(with_reducible first|refine ay _ _ ?_|refine aD ?_|refine aE ?_)|rw[aB]|simp only[hq,zY,Int.reduceEq,Int.reduceBEq,Int.reduceBNe,Nat.reduceSub,Nat.reduceEqDiff,Nat.reduceAdd,Nat.reduceMul,Nat.reduceLeDiff,Nat.reduceLT,Nat.reduceBEq,reduceCtorEq]|((first|((try refine aQ ?_);apply aS)|(apply aR;intro _));(solve|exact(h1)|exact(h2)|(refine ag.le (h1) ?_;exact zM)|(refine ag.le (h2) ?_;exact zM)|fail);try case hn=>rfl)|refine aC ?_|refine aA (λ hb=> ?_) (λ hb=> ?_)|(refine And.intro ?_ ?_;exact zI)|refine And.intro (λ hg=> ?_) (λ hg=> ?_)|exact zC|fail)
 .have hq:(!cR c|| !ep f)=false:=by unfold bU at hm;rw[←gX,hm];rfl
  rw[ao rfl];obtain⟨hp,hk⟩:=gS hm
  repeat'(first|(with_reducible first|refine ay _ _ ?_|refine aD ?_|refine aE ?_)|rw[aB]|simp only[hq,aj hk,zY,Int.reduceEq,Int.reduceBEq,Int.reduceBNe,Nat.reduceSub,Nat.reduceEqDiff,Nat.reduceAdd,Nat.reduceMul,Nat.reduceLeDiff,Nat.reduceLT,Nat.reduceBEq,reduceCtorEq]|((first|((try refine aQ ?_);apply aS)|(apply aR;intro _));(solve|exact(h1)|exact(h2)|(refine ag.le (h1) ?_;exact zM)|(refine ag.le (h2) ?_;exact zM)|fail);try case hn=>rfl)|refine aC ?_|refine aA (λ hb=> ?_) (λ hb=> ?_)|(refine And.intro ?_ ?_;exact zI)|refine And.intro (λ hg=> ?_) (λ hg=> ?_)|exact zC|fail)
end Go.Proofs.YtjdbaocjeeficaaGreat
