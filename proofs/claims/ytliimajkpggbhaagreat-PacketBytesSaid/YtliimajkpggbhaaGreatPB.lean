import Derived.Test.YtliimajkpggbhaaGreatL5
set_option maxHeartbeats 8000000
namespace Go.Proofs.YtliimajkpggbhaaGreat
open Go.Pk Tryz
set_option maxRecDepth 100000
set_option linter.unusedSimpArgs false
set_option linter.unusedVariables false
abbrev qJ:eh:=⟨0,0,0,[]⟩
def kj (bs:List Int) (p:Int):eh×Int×Int:=
 if(bQ bs p).2.2≠0 then(qJ,0,(bQ bs p).2.2)else
 let s:=ch bs (bQ bs p).2.1
 if s.2.2≠0 then(qJ,0,s.2.2)else
 let a:=bQ bs s.2.1
 if a.2.2≠0 then(qJ,0,a.2.2)else
 let n:=bQ bs a.2.1
 if n.2.2≠0 then(qJ,0,n.2.2)else
 if n.1>4 then(qJ,0,4)else
 let g:=gP bs n.1.toNat n.2.1 []
 if g.2.2≠0 then(qJ,0,g.2.2)else
 if fR ⟨(bQ bs p).1,s.1,a.1,g.1⟩=false then(qJ,0,4)else(⟨(bQ bs p).1,s.1,a.1,g.1⟩,g.2.1,0)
theorem vF {bs:List Int} (h:bu bs) {p:Int}:aO (bQ bs p).1:=by
 unfold bQ;cases hs:eU bs.length p 1
 .obtain⟨h1,h2,h3⟩:=lC hs;rw[aa (by simp)];exact rn (by omega) h.b
 .rw[aj rfl];exact⟨by decide,by decide⟩
theorem FC {bs:List Int} {p most:Int}:(cP bs p most).1.size≤bs.length:=by
 unfold cP;split
 .simp
 .split
  .simp
  .split
   .simp
   .simp only[jZ,ByteArray.size,AZ,bE,cu,iM];omega
theorem Cr {bs:List Int}:∀{n:Nat} {p:Int} {acc:List dO},(∀g∈acc,g.name.size≤bs.length)->(gP bs n p acc).1.length≤acc.length+n/\∀g∈(gP bs n p acc).1,g.name.size≤bs.length
 |0,p,acc,h=>⟨Nat.le_refl _,h⟩
 |n+1,p,acc,h=>by
  rw[gP];split
  .exact⟨bc _,by simp⟩
  .split
   .exact⟨bc _,by simp⟩
   .have:=Cr (bs:=bs) (n:=n) (p:=(ch bs (cP bs p 12).2.1).2.1) (acc:=acc++[⟨(cP bs p 12).1,(ch bs (cP bs p 12).2.1).1⟩]) (λ g hg=>by
     rcases dN.1 hg with hg|hg
     .exact h g hg
     .simp at hg;subst hg;exact FC)
    rw[aG,bG]at this;exact⟨by omega,this.2⟩
theorem VH (bs:List Int) (p:Int) (h:bu bs) (hp:i64 p):
  ah prog 141 [.f (de bs.length (ag bs)), .f (ai p)] (λ r o=>r=[G1 (kj bs p).1,ri (kj bs p).2.1,ri (kj bs p).2.2]/\o=[]):=by
 refine ah.nil ?_;refine zh func141 results141 ntmps141 call141 ?_;simp only[f141,Option.getD];have hl:=h.l;have h1:=rm bs p h hp;have h2:=sM bs (bQ bs p).2.1 h (iL h.l pW);have h3:=rm bs (ch bs (bQ bs p).2.1).2.1 h (iL h.l sA);have h4:=rm bs (bQ bs (ch bs (bQ bs p).2.1).2.1).2.1 h (iL h.l pW);unfold kj;simp only;obtain⟨b,hb⟩:∃b,b=bQ bs p:=⟨_,rfl⟩;rw[←hb]at h1 h2 h3 h4⊢;obtain⟨s,hs⟩:∃s,s=ch bs b.2.1:=⟨_,rfl⟩;rw[←hs]at h2 h3 h4⊢;obtain⟨a,ha⟩:∃a,a=bQ bs s.2.1:=⟨_,rfl⟩;rw[←ha]at h3 h4⊢;obtain⟨n,hn⟩:∃n,n=bQ bs a.2.1:=⟨_,rfl⟩;rw[←hn]at h4⊢;have hnv:aO n.1:=by rw[hn];exact vF h
 have hnn:i64 n.2.1:=by rw[hn];exact iL h.l pW
 have hbv:aO b.1:=by rw[hb];exact vF h
 unfold aO at hnv hbv;have h5:=Ys bs n.2.1 n.1.toNat h hnn (by omega);rw[yp hnv.1]at h5;have hgk:=Cr (bs:=bs) (n:=n.1.toNat) (p:=n.2.1) (acc:=[]) (by simp);obtain⟨g,hg⟩:∃g,g=gP bs n.1.toNat n.2.1 []:=⟨_,rfl⟩;rw[←hg]at h5 hgk⊢;have h6:=Fj ⟨b.1,s.1,a.1,g.1⟩ ⟨by have:=hgk.1;simp only[fN]at this;simp only;omega,λ x hx=>by have:=hgk.2 x hx;omega⟩;clear hgk;cases e1:(b.2.2 !=0)
 .rw[aa (by simpa using e1)];cases e2:(s.2.2 !=0)
  .rw[aa (by simpa using e2)];cases e3:(a.2.2 !=0)
   .rw[aa (by simpa using e3)];cases e4:(n.2.2 !=0)
    .rw[aa (by simpa using e4)];cases e5:decide (n.1>4)
     .rw[aa (by simpa using e5)];cases e6:(g.2.2 !=0)
      .rw[aa (by simpa using e6)];cases e7:fR ⟨b.1,s.1,a.1,g.1⟩
       .rw[e7]at h6;rw[aj rfl];refine zL (I e1 (I e2 (I e3 (I e4 (I e5 e6))))) (I (h1) (I (h2) (I (h3) (I (h4) (I (h5) (h6)))))) ?_;show(ak _ _/\ak _ _/\ak _ _/\ak _ _/\True)/\ak _ _/\ak _ _/\True;simp[ak, -List.length_flatMap,cI]
       .rw[e7]at h6;rw[aa (by simp)];refine zL (I e1 (I e2 (I e3 (I e4 (I e5 e6))))) (I (h1) (I (h2) (I (h3) (I (h4) (I (h5) (h6)))))) ?_;show(ak _ _/\ak _ _/\ak _ _/\ak _ _/\True)/\ak _ _/\ak _ _/\True;simp[ak, -List.length_flatMap,cI]
      .rw[aj (by simpa using e6)];refine zL (I e1 (I e2 (I e3 (I e4 (I e5 e6))))) (I (h1) (I (h2) (I (h3) (I (h4) (h5))))) ?_;show(ak _ _/\ak _ _/\ak _ _/\ak _ _/\True)/\ak _ _/\ak _ _/\True;simp[ak, -List.length_flatMap,cI]
     .rw[aj (by simpa using e5)];refine zL (I e1 (I e2 (I e3 (I e4 e5)))) (I (h1) (I (h2) (I (h3) (h4)))) ?_;show(ak _ _/\ak _ _/\ak _ _/\ak _ _/\True)/\ak _ _/\ak _ _/\True;simp[ak, -List.length_flatMap,cI]
    .rw[aj (by simpa using e4)];refine zL (I e1 (I e2 (I e3 e4))) (I (h1) (I (h2) (I (h3) (h4)))) ?_;show(ak _ _/\ak _ _/\ak _ _/\ak _ _/\True)/\ak _ _/\ak _ _/\True;simp[ak, -List.length_flatMap,cI]
   .rw[aj (by simpa using e3)];refine zL (I e1 (I e2 e3)) (I (h1) (I (h2) (h3))) ?_;show(ak _ _/\ak _ _/\ak _ _/\ak _ _/\True)/\ak _ _/\ak _ _/\True;simp[ak, -List.length_flatMap,cI]
  .rw[aj (by simpa using e2)];refine zL (I e1 e2) (I (h1) (h2)) ?_;show(ak _ _/\ak _ _/\ak _ _/\ak _ _/\True)/\ak _ _/\ak _ _/\True;simp[ak, -List.length_flatMap,cI]
 .rw[aj (by simpa using e1)];refine zL e1 (h1) ?_;show(ak _ _/\ak _ _/\ak _ _/\ak _ _/\True)/\ak _ _/\ak _ _/\True;simp[ak, -List.length_flatMap,cI]
abbrev gT:bN:=⟨0,0,qJ⟩
def eC (bs:List Int) (p:Int):bN×Int×Int:=
 if(bQ bs p).2.2≠0 then(gT,0,(bQ bs p).2.2)else
 let s:=ch bs (bQ bs p).2.1
 if s.2.2≠0 then(gT,0,s.2.2)else
 let r:=kj bs s.2.1
 if r.2.2≠0 then(gT,0,r.2.2)else
 if eB ⟨(bQ bs p).1,s.1,r.1⟩=false then(gT,0,4)else(⟨(bQ bs p).1,s.1,r.1⟩,r.2.1,0)
abbrev DO (m:bN):RF:= .agg (m.enc.map RO.d)
theorem Iq {bs:List Int}:∀{n:Nat} {p:Int} {acc:List dO},0≤p/\p≤bs.length->0≤(gP bs n p acc).2.1/\(gP bs n p acc).2.1≤bs.length
 |0,p,acc,h=>h
 |n+1,p,acc,h=>by
  rw[gP];split
  .simp only;omega
  .split
   .simp only;omega
   .exact Iq sA
theorem yU {bs:List Int} (h:bu bs) {p:Int}:(0≤(kj bs p).2.1/\(kj bs p).2.1≤bs.length)/\ik (kj bs p).1:=by
 have hl:=h.l;have h0:(0≤((qJ,(0:Int),(0:Int)):eh×Int×Int).2.1/\((qJ,(0:Int),(0:Int)):eh×Int×Int).2.1≤bs.length)/\ik qJ:=⟨by simp only;omega,by simp,by simp⟩;unfold kj;simp only;split
 .exact h0
 split
 .exact h0
 split
 .exact h0
 split
 .exact h0
 split
 .exact h0
 rename_i h5;split
 .exact h0
 split
 .exact h0
 .have hgk:=Cr (bs:=bs) (n:=(bQ bs (bQ bs (ch bs (bQ bs p).2.1).2.1).2.1).1.toNat) (p:=(bQ bs (bQ bs (ch bs (bQ bs p).2.1).2.1).2.1).2.1) (acc:=[]) (by simp);simp only[fN]at hgk;exact⟨Iq pW,by simp only;omega,λ g hg=>by have:=hgk.2 g hg;omega⟩
theorem E' (bs:List Int) (p:Int) (h:bu bs) (hp:i64 p):
  ah prog 91 [.f (de bs.length (ag bs)), .f (ai p)] (λ r o=>r=[DO (eC bs p).1,ri (eC bs p).2.1,ri (eC bs p).2.2]/\o=[]):=by
 refine ah.nil ?_;refine zh func91 results91 ntmps91 call91 ?_;simp only[f91,Option.getD];have h1:=rm bs p h hp;have h2:=sM bs (bQ bs p).2.1 h (iL h.l pW);have h3:=VH bs (ch bs (bQ bs p).2.1).2.1 h (iL h.l sA);have hf:=(yU h (p:=(ch bs (bQ bs p).2.1).2.1)).2;unfold eC;simp only;obtain⟨b,hb⟩:∃b,b=bQ bs p:=⟨_,rfl⟩;rw[←hb]at h1 h2 h3 hf⊢;obtain⟨s,hs⟩:∃s,s=ch bs b.2.1:=⟨_,rfl⟩;rw[←hs]at h2 h3 hf⊢;obtain⟨a,ha⟩:∃a,a=kj bs s.2.1:=⟨_,rfl⟩;rw[←ha]at h3 hf⊢;have h4:=BX ⟨b.1,s.1,a.1⟩ hf;cases e1:(b.2.2 !=0)
 .rw[aa (by simpa using e1)];cases e2:(s.2.2 !=0)
  .rw[aa (by simpa using e2)];cases e3:(a.2.2 !=0)
   .rw[aa (by simpa using e3)];cases e7:eB ⟨b.1,s.1,a.1⟩
    .rw[e7]at h4;rw[aj rfl];refine zL (I e1 (I e2 e3)) (I (h1) (I (h2) (I (h3) (h4)))) ?_;show(ak _ _/\ak _ _/\ak _ _/\ak _ _/\ak _ _/\ak _ _/\True)/\ak _ _/\ak _ _/\True;simp[ak]
    .rw[e7]at h4;rw[aa (by simp)];refine zL (I e1 (I e2 e3)) (I (h1) (I (h2) (I (h3) (h4)))) ?_;show(ak _ _/\ak _ _/\ak _ _/\ak _ _/\ak _ _/\ak _ _/\True)/\ak _ _/\ak _ _/\True;simp[ak]
   .rw[aj (by simpa using e3)];refine zL (I e1 (I e2 e3)) (I (h1) (I (h2) (h3))) ?_;show(ak _ _/\ak _ _/\ak _ _/\ak _ _/\ak _ _/\ak _ _/\True)/\ak _ _/\ak _ _/\True;simp[ak]
  .rw[aj (by simpa using e2)];refine zL (I e1 e2) (I (h1) (h2)) ?_;show(ak _ _/\ak _ _/\ak _ _/\ak _ _/\ak _ _/\ak _ _/\True)/\ak _ _/\ak _ _/\True;simp[ak]
 .rw[aj (by simpa using e1)];refine zL e1 (h1) ?_;show(ak _ _/\ak _ _/\ak _ _/\ak _ _/\ak _ _/\ak _ _/\True)/\ak _ _/\ak _ _/\True;simp[ak]
def iU (s:ByteArray):List Int:=(s.size:Int)::s.data.toList.map λ b=>(b.toNat:Int)
theorem Ho (s:ByteArray):pD s=ag (iU s):=by simp[pD,iU,ag,rL]
theorem rj (s:ByteArray):(iU s).length=1+s.size:=by simp[iU,sG,kT]
def AD (g:dO):List Int:=iU g.name++aK g.token
def nF (l:List dO):List Int:=l.flatMap AD
def gR (r:eh):List Int:=[r.code]++(aK r.br++([r.ahead,(r.held.length:Int)]++nF r.held))
def fE (m:bN):List Int:=[m.af]++(aK m.seq++gR m.bd)
theorem cg (n:Int):(aK n).length=8:=rfl
theorem Wv (g:dO):(AD g).length=9+g.name.size:=by simp[AD,rj,cg];omega
theorem B8:∀{l:List dO} {k:Nat},(∀g∈l,g.name.size≤k)->(nF l).length≤l.length*(9+k)
 |[],k,_=>by simp[nF]
 |g::l,k,h=>by
  have h1:=B8 (l:=l) (k:=k) λ x hx=>h x (by simp[hx])
  have h2:=h g (by simp);rw[nF,fv,aG,cL,Wv,eQ];unfold nF at h1;omega
theorem aaH (b:UInt8):aO (b.toNat:Int):=⟨by omega,by have:=b.toNat_lt;omega⟩
theorem VW (v:Int):aO (IntKind.u8.wrap v):=by
 have e:IntKind.u8.wrap v=v % 256:=by unfold IntKind.wrap;simp[IntKind.bits,IntKind.signed]
 rw[e];unfold aO;omega
theorem mr (v:Int):∀x∈aK v,aO x:=by intro x hx;obtain⟨k,_,rfl⟩:=kx.1 hx;exact VW _
theorem Hq (s:ByteArray) (h:s.size≤255):∀x∈iU s,aO x:=by
 intro x hx;rcases cF.1 hx with rfl|hx
 .exact⟨by omega,by omega⟩
 .obtain⟨b,_,rfl⟩:=kx.1 hx;exact aaH b
theorem Xr (v:Int):IntKind.u8.wrap v=v % 256:=by unfold IntKind.wrap;simp[IntKind.bits,IntKind.signed]
theorem Xa (v:Int) (k:Nat):nI v k=v / (2^(8*(7 - k))) % 256:=by rw[nI,Xr,v9 _ (tC (by decide))]
theorem ab6 (v:Int) (h:0≤v/\v<4611686018427387904):eO (aK v)=v:=by
 have e:aK v=[v / 72057594037927936 % 256,v / 281474976710656 % 256,v / 1099511627776 % 256,v / 4294967296 % 256,v / 16777216 % 256,v / 65536 % 256,v / 256 % 256,v % 256]:=by show List.map (nI v) [0,1,2,3,4,5,6,7]=_;simp only[b7,fY,Xa];simp
 rw[e];simp only[eO,tu,List.foldl_nil];have d1:v / 65536=v / 256 / 256:=by omega
 have d2:v / 16777216=v / 65536 / 256:=by omega
 have d3:v / 4294967296=v / 16777216 / 256:=by omega
 have d4:v / 1099511627776=v / 4294967296 / 256:=by omega
 have d5:v / 281474976710656=v / 1099511627776 / 256:=by omega
 have d6:v / 72057594037927936=v / 281474976710656 / 256:=by omega
 have t0:0*256+v / 72057594037927936 % 256=v / 72057594037927936:=by omega
 have t1:v / 72057594037927936*256+v / 281474976710656 % 256=v / 281474976710656:=by rw[d6];omega
 have t2:v / 281474976710656*256+v / 1099511627776 % 256=v / 1099511627776:=by rw[d5];omega
 have t3:v / 1099511627776*256+v / 4294967296 % 256=v / 4294967296:=by rw[d4];omega
 have t4:v / 4294967296*256+v / 16777216 % 256=v / 16777216:=by rw[d3];omega
 have t5:v / 16777216*256+v / 65536 % 256=v / 65536:=by rw[d2];omega
 have t6:v / 65536*256+v / 256 % 256=v / 256:=by rw[d1];omega
 have t7:v / 256*256+v % 256=v:=by omega
 rw[t0,t1,t2,t3,t4,t5,t6,t7]
theorem vt {r:eh} (h:fR r=true):(0≤r.code/\r.code≤12)/\(0≤r.br/\r.br≤2305843009213693952)/\(0≤r.ahead/\r.ahead≤3)/\r.held.length≤4/\eD (i5 r.held) 0 r.held=true:=by unfold fR at h;have hH:bj=2305843009213693952:=rfl;simp only[bM,ir,iP,gg,hH]at h;obtain⟨⟨h1,h2⟩,h3⟩:=h;refine⟨by omega,by omega,by omega,by omega,h3⟩
theorem JE {α:Type} {q:Nat->α->Bool}:∀{l:List α} {i:Nat},eD q i l=true->∀x∈l,∃k,q k x=true
 |[],_,_,x,hx=>by cases hx
 |a::l,i,h,x,hx=>by
  rw[eD]at h;split at h
  .rename_i hq;rcases cF.1 hx with rfl|hx
   .exact⟨i,hq⟩
   .exact JE h x hx
  .cases h
theorem wW {r:eh} (h:fR r=true):∀g∈r.held,g.name.size≤12/\0≤g.token/\g.token<4611686018427387904:=by
 intro g hg;obtain⟨k,hk⟩:=JE (vt h).2.2.2.2 g hg;unfold i5 at hk;have hH:bj=2305843009213693952:=rfl;simp only[ir,iP,gg,hH,pq]at hk;obtain⟨⟨⟨h1,h2⟩,h3⟩,h4⟩:=hk;have:fb g.name=true:=by simpa using h1
 unfold fb at this;simp only[bM,dX]at this;omega
theorem vr {m:bN} (h:eB m=true):(0≤m.af/\m.af<8)/\(1≤m.seq/\m.seq≤2305843009213693952)/\fR m.bd=true:=by unfold eB at h;have hH:bj=2305843009213693952:=rfl;simp only[bM,dX,hH]at h;exact⟨by omega,by omega,h.2⟩
theorem WR {l:List dO} {i:Nat} (hi:i<l.length):nF (l.take (i+1))=nF (l.take i)++(iU l[i].name++aK l[i].token):=by rw[A6 hi,nF,v7];simp[nF,AD]
def tI (r:eh):List Int:=[r.code]++(aK r.br++[r.ahead,(r.held.length:Int)])
def eG (r:eh) (i:Nat):List Int:=tI r++nF (r.held.take i)
theorem CQ {r:eh} {i:Nat} (hi:i<r.held.length):eG r (i+1)=(eG r i++iU r.held[i].name)++aK r.held[i].token:=by rw[eG,WR hi,eG];simp
theorem CC {r:eh}:eG r 0=tI r:=by simp[eG,nF]
theorem LJ {r:eh}:eG r r.held.length=gR r:=by simp[eG,tI,gR]
theorem zR (r:eh):(tI r).length=11:=by simp[tI,cg]
theorem VJ (r:eh) (h:fR r=true):ah prog 67 [.f (.agg r.aC)] (λ x o=>x=[.one (.own 1 (gR r).length (ag (gR r)) false),ri 0]/\o=[]):=by
 obtain⟨f1,f2,f3,f4,f5⟩:=vt h;have hgr:=wW h;refine zh func67 results67 ntmps67 call67 ?_;simp only[f67,Option.getD];have hmy:=Fj r ⟨by omega,λ g hg=>by have:=(hgr g hg).1;omega⟩;rw[h]at hmy;have hpn:=ur r.br (by omega);have w1:IntKind.u8.wrap r.code=r.code:=dj (by omega) (by omega);have w2:IntKind.u8.wrap r.ahead=r.ahead:=dj (by omega) (by omega);have w3:IntKind.u8.wrap (r.held.length:Int)=r.held.length:=dj (by omega) (by omega);have hcc:ah prog 66 [.f (al 3 [.sl 1 (ag [r.code]), .sl 8 (ag (aK r.br)), .sl 2 (ag [r.ahead,(r.held.length:Int)])])] (λ x o=>x=[.one (.own 1 11 (ag (tI r)) false)]/\o=[]):=by
  have hc:=FV [ag [r.code],ag (aK r.br),ag [r.ahead,(r.held.length:Int)]] (by simp) (λ l hl=>by
   simp only[cF,iA,iR]at hl;rcases hl with rfl|rfl|rfl
   .simp
   .rw[oi];decide
   .simp)
  rw[show [ag [r.code],ag (aK r.br),ag [r.ahead,(r.held.length:Int)]].flatten=ag (tI r) from by simp[tI,ag]]at hc;rw[show(ag (tI r)).length=11 from by rw[bE,zR]]at hc;exact hc
 have t1:(ag (aK r.br)).take 8=ag (aK r.br):=dk (by rw[oi];decide);have t2:dC (sub 0 2 1 [C.d (uD r.ahead),C.d (uD (r.held.length:Int))])=some [uD r.ahead,uD (r.held.length:Int)]:=rfl;refine zL (I t1 (I t2 (I w1 (I w2 w3)))) (I (hmy) (I (hpn) (hcc))) ?_;refine bq (τ:=Nat) (λ i=>⟨(dd::cd 1::js (.one (.own ⟨6,1,1⟩ 0 (eG r i).length)::yz (al r.held.length (dV r.held)::ai r.held.length::ai i::wB []))),[(1,⟨2,[aW 1 [di r.code,di r.br,di r.ahead, .aC r.held.length (dV r.held)],none,none,none,none]⟩),(19,⟨2,[]⟩),(4,⟨2,[]⟩),(25,⟨2,[]⟩),(34,⟨2,[]⟩),(35,⟨2,[]⟩),(36,⟨2,[]⟩),(6,⟨2,[none,b9 1 1 (ag (eG r i))]⟩),(8,⟨2,[]⟩),(9,⟨2,[]⟩),(11,⟨2,[]⟩),(47,⟨2,[]⟩),(53,⟨2,[]⟩),(58,⟨2,[]⟩),(60,⟨2,[]⟩)]⟩)
  (λ i=>i≤r.held.length) (λ _=>()) (λ i=>r.held.length - i) 0
  (Gh.canon [1,6] [8,9,11,47,53,58,60] [] (zk (I @CC @zR)) rfl (by rw[CC];rfl)) (bc _) ?_
 intro i hi0 hF K hK;refine zw ?_;refine aq (λ hlt=> ?_) (λ hge=> ?_)
 .have hi:i<r.held.length:=by simpa using hlt
  have hat:=oU hi;have hw:=bz hi (by omega);have hg:=hgr _ (cb hi);have hpt:=FB r.held[i].name (by omega);have hpm:=ur r.held[i].token hg.2;have hlb:(eG r i).length≤11+4*21:=by
   rw[eG,aG,zR];have:=B8 (l:=r.held.take i) (k:=12) λ g hx=>(hgr g (jm hx)).1
   have:(r.held.take i).length≤4:=by rw[cu];omega
   omega
  have hle:((eG r i).length+(1+r.held[i].name.size)≤2^47)=True:=b5 (by omega);have hle2:((eG r i).length+(1+r.held[i].name.size)+8≤2^47)=True:=b5 (by omega);have k1:(pD r.held[i].name).take (1+r.held[i].name.size)=pD r.held[i].name:=dk (by rw[Cy];exact Nat.le_refl _);have k2:(ag (aK r.held[i].token)).take 8=ag (aK r.held[i].token):=dk (by rw[oi];decide);have k3:(ag (eG r i)).take (eG r i).length=ag (eG r i):=dk (by rw[bE];exact Nat.le_refl _);have k4:(ag (eG r i)++pD r.held[i].name).take ((eG r i).length+(1+r.held[i].name.size))=ag (eG r i)++pD r.held[i].name:=dk (by rw[aG,bE,Cy];exact Nat.le_refl _);have hsl:(eG r (i+1)).length=(eG r i).length+(1+r.held[i].name.size)+8:=by rw[CQ hi,aG,aG,rj,cg]
  refine zL (I hat (I @cI (I hle (I hle2 (I k1 (I k2 (I k3 (I k4 (I @Cy (I @bE.{0,0} (I @cg bw))))))))))) (I (hpt) (hpm)) ?_;exact hK _ (i+1) (Gh.canon [1,6] [] [] (zk (I hw hsl)) rfl (by rw[CQ hi,Ho];simp only[b9,ag,fU];rfl)) hi rfl (by omega)
 .have hi:i=r.held.length:=by
   have:¬(i:Int)<r.held.length:=by simpa using hge
   omega
  subst hi;refine az trivial ?_;rw[LJ]
theorem FD {r:eh} (h:fR r=true):(gR r).length≤95:=by
 have hgr:=wW h;have hf:=(vt h).2.2.2.1;have:=B8 (l:=r.held) (k:=12) λ g hg=>(hgr g hg).1
 have e:(gR r).length=11+(nF r.held).length:=by simp[gR,cg];omega
 omega
theorem B5 {m:bN} (h:eB m=true):(fE m).length≤104:=by
 have:=FD (vr h).2.2;have e:(fE m).length=9+(gR m.bd).length:=by simp[fE,cg];omega
 omega
theorem Fc {m:bN} (h:eB m=true):ik m.bd:=by have hgr:=wW (vr h).2.2;have hf:=(vt (vr h).2.2).2.2.2.1;exact⟨by omega,λ g hg=>by have:=(hgr g hg).1;omega⟩
theorem Iu (m:bN) (h:eB m=true):ah prog 23 [.f (.agg m.aC)] (λ x o=>x=[.one (.own 1 (fE m).length (ag (fE m)) false),ri 0]/\o=[]):=by
 refine zh func23 results23 ntmps23 call23 ?_;simp only[f23,Option.getD];obtain⟨f1,f2,f3⟩:=vr h;have hmy:=BX m (Fc h);rw[h]at hmy;have hpn:=ur m.seq (by omega);have hpr:=VJ m.bd f3;have hrl:=FD f3;have w1:IntKind.u8.wrap m.af=m.af:=dj (by omega) (by omega);have hcc:ah prog 66 [.f (al 3 [.sl 1 (ag [m.af]), .sl 8 (ag (aK m.seq)), .sl (gR m.bd).length (ag (gR m.bd))])] (λ x o=>x=[.one (.own 1 (fE m).length (ag (fE m)) false)]/\o=[]):=by
  have hc:=FV [ag [m.af],ag (aK m.seq),ag (gR m.bd)] (by simp) (λ l hl=>by
   simp only[cF,iA,iR]at hl;rcases hl with rfl|rfl|rfl
   .simp
   .rw[oi];decide
   .rw[bE];omega)
  rw[show [ag [m.af],ag (aK m.seq),ag (gR m.bd)].flatten=ag (fE m) from by simp[fE,ag]]at hc;simp only[rW,b7,fY,bE,cL,fN,cg]at hc;exact hc
 have t1:(ag (aK m.seq)).take 8=ag (aK m.seq):=dk (by rw[oi];decide);have t2:(ag (gR m.bd)).take (gR m.bd).length=ag (gR m.bd):=dk (by rw[bE];exact Nat.le_refl _);exact zW (I t1 (I t2 w1)) (I (hmy) (I (hpn) (I (hpr) (hcc))))
theorem sN (v:Int) (h:0≤v/\v<4611686018427387904):ah prog 69 [.f (ai v)] (λ r o=>r=[.one (.own 1 8 (ag (aK v)) false)]/\o=[]):=by refine zh func69 results69 ntmps69 call69 ?_;simp only[f69,Option.getD];have hp:=ur v h;exact zW trivial (hp)
theorem Jg:∀ls:List (List Int),(ls.map ag).flatten=ag ls.flatten
 |[]=>rfl
 |l::ls=>by simp only[b7,jK,Jg ls,fU]
theorem uz (ls:List (List Int)) (hl:ls.length<2^10) (hs:∀l∈ls,l.length≤2^12):
  ah prog 66 [.f (al ls.length (ls.map λ l=> .sl l.length (ag l)))] (λ r o=>r=[.one (.own 1 ls.flatten.length (ag ls.flatten) false)]/\o=[]):=by
 have h:=FV (ls.map ag) (by simpa using hl) (λ l h=>by obtain⟨x,hx,rfl⟩:=kx.1 h;rw[bE];exact hs x hx)
 rw[Jg,ij,bE]at h;have e:rW (ls.map ag)=ls.map λ l=> .sl l.length (ag l):=by rw[rW,rT];exact Bj λ l _=>by simp only[Function.comp,ij]
 rw[e]at h;exact h
def rH (x:bg):List Int:=x.af::(aK x.num++aK x.dp)
def ue (k:Lk):List Int:=iU k.name++(k.bh::(aK k.token++[(k.line.length:Int)]))
def sW (k:Lk):List Int:=ue k++k.line
def qy (s:St):List Int:=aK s.time++(aK s.num++(aK s.token++[(s.ax.length:Int)]))
def gp (s:St) (i:Nat):List Int:=qy s++(s.ax.take i).flatMap rH
def f7 (s:St) (i:Nat):List Int:=(gp s s.ax.length++[(s.ae.length:Int)])++(s.ae.take i).flatMap sW
def jQ (s:St) (i:Nat):List Int:=(f7 s s.ae.length++[(s.aI.length:Int)])++(s.aI.take i).flatMap fE
def kn (s:St):List Int:=jQ s s.aI.length
theorem wZ {α:Type} (f:α->List Int) {l:List α} {i:Nat} (hi:i<l.length):(l.take (i+1)).flatMap f=(l.take i).flatMap f++f l[i]:=by rw[A6 hi,v7];simp
theorem GP {s:St} {i:Nat} (hi:i<s.ax.length):gp s (i+1)=gp s i++rH s.ax[i]:=by rw[gp,wZ _ hi,gp,fH]
theorem aat {s:St} {i:Nat} (hi:i<s.ae.length):f7 s (i+1)=f7 s i++sW s.ae[i]:=by rw[f7,wZ _ hi,f7,←fH]
theorem C5 {s:St} {i:Nat} (hi:i<s.aI.length):jQ s (i+1)=jQ s i++fE s.aI[i]:=by rw[jQ,wZ _ hi,jQ,←fH]
theorem Dd {s:St}:gp s 0=qy s:=by simp[gp]
theorem CZ {s:St}:f7 s 0=gp s s.ax.length++[(s.ae.length:Int)]:=by simp[f7]
theorem Dc {s:St}:jQ s 0=f7 s s.ae.length++[(s.aI.length:Int)]:=by simp[jQ]
theorem xj {α:Type} (f:α->List Int) {k:Nat}:∀{l:List α},(∀x∈l,(f x).length≤k)->(l.flatMap f).length≤l.length*k
 |[],_=>by simp
 |x::l,h=>by
  rw[fv,aG,cL,eQ];have:=h x (by simp);have:=xj f (l:=l) λ y hy=>h y (by simp[hy])
  omega
theorem CS (s:St):(qy s).length=25:=by simp[qy,cg]
theorem K0 (x:bg):(rH x).length=17:=by simp[rH,cg]
theorem DJ (k:Lk):(ue k).length=11+k.name.size:=by simp[ue,cg,rj];omega
theorem Az (s:St) (i:Nat):(gp s i).length≤25+i*17:=by
 rw[gp,aG,CS];have:=xj rH (l:=s.ax.take i) (k:=17) λ x _=>by rw[K0];exact Nat.le_refl _
 have h2:(s.ax.take i).length≤i:=by rw[cu];omega
 have:=gU 17 h2;omega
theorem Cb {s:St} (h:cZ s) {k:Lk} (hk:k∈s.ae):(sW k).length≤26/\k.name.size≤12/\(0≤k.bh/\k.bh≤255)/\(0≤k.token/\k.token<4611686018427387904)/\k.line.length≤3/\∀c∈k.line,0≤c/\c≤255:=by
 have hH:bj=2305843009213693952:=rfl;obtain⟨a,_,b,_⟩:=h.ju k hk;obtain⟨h1,h2,h3⟩:=oY.1 a;obtain⟨l1,l2,_⟩:=nC.1 b;have hs:=FA h1;refine⟨?_,hs,by omega,by omega,l1,λ c hc=> ?_⟩
 .rw[sW,aG,DJ];omega
 .have:=l2 c hc;simp only[fq,bM,dX]at this;omega
def ia (s:St) (i:Nat) (k:Lk) (j:Nat):List Int:=(f7 s i++ue k)++k.line.take j
theorem FY {s:St} {i:Nat} {k:Lk}:ia s i k 0=f7 s i++ue k:=by simp[ia]
theorem Cw {s:St} {i:Nat} {k:Lk} {j:Nat} (hj:j<k.line.length):ia s i k (j+1)=ia s i k j++[k.line[j]]:=by rw[ia,A6 hj,←fH,ia]
theorem Dp {s:St} {i:Nat} (hi:i<s.ae.length):ia s i s.ae[i] s.ae[i].line.length=f7 s (i+1):=by rw[ia,lP,aat hi,sW,fH]
theorem Ax {s:St} (h:cZ s) (i:Nat):(f7 s i).length≤115+i*26:=by
 rw[f7,aG,aG];have:=Az s s.ax.length;have:=h.sl;have:=xj sW (l:=s.ae.take i) (k:=26) λ x hx=>(Cb h (jm hx)).1
 have h2:(s.ae.take i).length≤i:=by rw[cu];omega
 have:=gU 26 h2;simp only[bG];omega
theorem xD {s:St} (h:cZ s):s.aI.length≤8:=by
 have:=FK (a:=0) (b:=8) (DT.1 h.ms) (λ x hx=>by obtain⟨m,hm,rfl⟩:=kx.1 hx;exact(yS (h.lx m hm)).1)
 rw[bE]at this;omega
theorem Ay {s:St} (h:cZ s) (i:Nat):(jQ s i).length≤250+i*104:=by
 rw[jQ,aG,aG];have:=Ax h s.ae.length;have:=h.ll;have:=xj fE (l:=s.aI.take i) (k:=104) λ x hx=>B5 (h.lx x (jm hx))
 have h2:(s.aI.take i).length≤i:=by rw[cu];omega
 have:=gU 104 h2;simp only[bG];omega
theorem dD {l:List Int}:(ag l).take l.length=ag l:=dk (by rw[ij];exact Nat.le_refl _)
theorem WV (s:St) (h:cZ s):ah prog 68 [.f (.agg s.aC)] (λ r o=>r=[.one (.own 1 (kn s).length (ag (kn s)) false),ri 0]/\o=[]):=by
 refine zh func68 results68 ntmps68 call68 ?_;simp only[f68,Option.getD];have hri:=GA s (oO h);rw[uk.2 h]at hri;have hH:bj=2305843009213693952:=rfl;have ht:=h.time;have hn:=h.num;have hk:=h.token;have hsl:=h.sl;have hll:=h.ll;have n1:=sN s.time (by omega);have n2:=sN s.num (by omega);have n3:=sN s.token (by omega);have w1:IntKind.u8.wrap (s.ax.length:Int)=s.ax.length:=dj (by omega) (by omega);have hcc:ah prog 66 [.f (al 4 [.sl 8 (ag (aK s.time)), .sl 8 (ag (aK s.num)), .sl 8 (ag (aK s.token)), .sl 1 (ag [(s.ax.length:Int)])])] (λ x o=>x=[.one (.own 1 25 (ag (qy s)) false)]/\o=[]):=by
  have hc:=uz [aK s.time,aK s.num,aK s.token,[(s.ax.length:Int)]] (by simp) (λ l hl=>by simp only[cF,iA,iR]at hl;rcases hl with rfl|rfl|rfl|rfl<;>simp[cg])
  rw[show [aK s.time,aK s.num,aK s.token,[(s.ax.length:Int)]].flatten=qy s from by simp[qy],CS]at hc;exact hc
 have t8:∀v:Int,(ag (aK v)).take 8=ag (aK v):=λ v=>dk (by rw[oi];decide)
 have t1:∀x:Int,dC (sub 0 1 1 [C.d (uD x)])=some [uD x]:=λ _=>rfl
 refine zL (I t8 (I t1 w1)) (I (hri) (I (n1) (I (n2) (I (n3) (hcc))))) ?_;refine bq (τ:=Nat) (λ i=>⟨(dd::cd 1::dM (.one (.own ⟨4,1,1⟩ 0 (gp s i).length)::rV (al s.ax.length (bT s.ax)::ai s.ax.length::ai i::tT (b8 (b8 []))))),[(1,⟨2,[aW 1 [di s.time,di s.num,di s.token, .aC s.ax.length (bT s.ax), .aC s.ae.length (aU s.ae), .aC s.aI.length (ct s.aI)],none,none,none,none,none,none]⟩),(22,⟨2,[]⟩),(25,⟨2,[]⟩),(28,⟨2,[]⟩),(33,⟨2,[]⟩),(34,⟨2,[]⟩),(35,⟨2,[]⟩),(4,⟨2,[none,b9 1 1 (ag (gp s i))]⟩),(6,⟨2,[]⟩),(47,⟨2,[]⟩),(50,⟨2,[]⟩),(53,⟨2,[]⟩),(54,⟨2,[]⟩),(55,⟨2,[]⟩)]⟩)
  (λ i=>i≤s.ax.length) (λ _=>()) (λ i=>s.ax.length - i) 0
  (Gh.canon [1,4] [6,47,50,53,54,55] [] (zk (I @Dd @CS)) rfl (by rw[Dd];rfl)) (bc _) ?_
 intro i hi0 hF K hK;refine zw ?_;refine aq (λ hlt=> ?_) (λ hge=> ?_)
 .have hi:i<s.ax.length:=by simpa using hlt
  have hat:=hU hi;have hw:=bz hi (by omega);obtain⟨f1,f2,f3⟩:=qZ.1 (h.jS _ (cb hi)).1;simp only[fq,bM,dX]at f1;have wc:IntKind.u8.wrap s.ax[i].af=s.ax[i].af:=dj (by omega) (by omega);have m1:=sN s.ax[i].num (by omega);have m2:=sN s.ax[i].dp (by omega);have hb:=Az s i;have hcc:ah prog 66 [.f (al 4 [.sl (gp s i).length (ag (gp s i)), .sl 1 (ag [s.ax[i].af]), .sl 8 (ag (aK s.ax[i].num)), .sl 8 (ag (aK s.ax[i].dp))])] (λ x o=>x=[.one (.own 1 (gp s (i+1)).length (ag (gp s (i+1))) false)]/\o=[]):=by
   have hc:=uz [gp s i,[s.ax[i].af],aK s.ax[i].num,aK s.ax[i].dp] (by simp) (λ l hl=>by
    simp only[cF,iA,iR]at hl;rcases hl with rfl|rfl|rfl|rfl
    .omega
    .simp
    .rw[cg];decide
    .rw[cg];decide)
   rw[show [gp s i,[s.ax[i].af],aK s.ax[i].num,aK s.ax[i].dp].flatten=gp s (i+1) from by rw[GP hi];simp[rH]]at hc;exact hc
  refine zL (I hat (I @ca (I t8 (I t1 (I wc (I @dD bw)))))) (I (m1) (I (m2) (hcc))) ?_;exact hK _ (i+1) (Gh.canon [1,4] [] [] (zk hw) rfl rfl) hi rfl (by omega)
 .have hi:i=s.ax.length:=by
   have:¬(i:Int)<s.ax.length:=by simpa using hge
   omega
  subst hi;clear hK;have w2:IntKind.u8.wrap (s.ae.length:Int)=s.ae.length:=dj (by omega) (by omega);have hb:=Az s s.ax.length;have hle:((gp s s.ax.length).length+1≤2^47)=True:=b5 (by omega);refine az (I hle (I t1 (I w2 @dD))) ?_;refine bq (τ:=Nat) (λ i=>⟨(dd::cd 1::dM (.one (.own ⟨4,1,1⟩ 0 (f7 s i).length)::qM (b8 (al s.ae.length (aU s.ae)::ai s.ae.length::ai i::wU (b8 []))))),[(1,⟨2,[aW 1 [di s.time,di s.num,di s.token, .aC s.ax.length (bT s.ax), .aC s.ae.length (aU s.ae), .aC s.aI.length (ct s.aI)],none,none,none,none,none,none]⟩),(22,⟨2,[]⟩),(25,⟨2,[]⟩),(28,⟨2,[]⟩),(33,⟨2,[]⟩),(34,⟨2,[]⟩),(35,⟨2,[]⟩),(4,⟨2,[none,b9 1 1 (ag (f7 s i))]⟩),(6,⟨2,[]⟩),(47,⟨2,[]⟩),(50,⟨2,[]⟩),(53,⟨2,[]⟩),(54,⟨2,[]⟩),(55,⟨2,[]⟩),(62,⟨2,[]⟩),(8,⟨2,[]⟩),(9,⟨2,[]⟩),(74,⟨2,[]⟩),(82,⟨2,[]⟩),(85,⟨2,[]⟩),(90,⟨2,[]⟩),(91,⟨2,[]⟩),(92,⟨2,[]⟩),(103,⟨2,[]⟩),(104,⟨2,[]⟩)]⟩)
   (λ i=>i≤s.ae.length) (λ _=>()) (λ i=>s.ae.length - i) 0
   (Gh.canon [1,4] [8,9,74,82,85,90,91,92,103,104] [] (zk (I @CZ (I @aG.{0} @bG.{0}))) rfl (by rw[CZ];simp only[b9,ag,fU];rfl)) (bc _) ?_
  intro i hi0 hF K hK;refine zw ?_;refine aq (λ hlt=> ?_) (λ hge=> ?_)
  .have hi:i<s.ae.length:=by simpa using hlt
   have hat:=f8 hi;have hw:=bz hi (by omega);obtain⟨q0,q1,q2,q3,q4,q5⟩:=Cb h (cb hi);have wc:IntKind.u8.wrap s.ae[i].bh=s.ae[i].bh:=dj (by omega) (by omega);have wl:IntKind.u8.wrap (s.ae[i].line.length:Int)=s.ae[i].line.length:=dj (by omega) (by omega);have m1:=FB s.ae[i].name (by omega);have m2:=sN s.ae[i].token (by omega);have hb:=Ax h i;have tt:(pD s.ae[i].name).take (1+s.ae[i].name.size)=pD s.ae[i].name:=dk (by rw[Cy];exact Nat.le_refl _);have hcc:ah prog 66 [.f (al 5 [.sl (f7 s i).length (ag (f7 s i)), .sl (1+s.ae[i].name.size) (pD s.ae[i].name), .sl 1 (ag [s.ae[i].bh]), .sl 8 (ag (aK s.ae[i].token)), .sl 1 (ag [(s.ae[i].line.length:Int)])])] (λ x o=>x=[.one (.own 1 (ia s i s.ae[i] 0).length (ag (ia s i s.ae[i] 0)) false)]/\o=[]):=by
    have hc:=uz [f7 s i,iU s.ae[i].name,[s.ae[i].bh],aK s.ae[i].token,[(s.ae[i].line.length:Int)]] (by simp) (λ l hl=>by
     simp only[cF,iA,iR]at hl;rcases hl with rfl|rfl|rfl|rfl|rfl
     .omega
     .rw[rj];omega
     .simp
     .rw[cg];decide
     .simp)
    rw[show [f7 s i,iU s.ae[i].name,[s.ae[i].bh],aK s.ae[i].token,[(s.ae[i].line.length:Int)]].flatten=ia s i s.ae[i] 0 from by rw[FY];simp[ue]]at hc;rw[←rj,Ho];exact hc
   refine zL (I hat (I @bK (I t8 (I t1 (I wc (I wl (I tt (I @dD bw)))))))) (I (m1) (I (m2) (hcc))) ?_;refine bq (τ:=Nat) (λ j=>⟨(dd::cd 1::dM (.one (.own ⟨4,1,1⟩ 0 (ia s i s.ae[i] j).length)::qM (b8 (al s.ae.length (aU s.ae)::ai s.ae.length::ai i::rY (de s.ae[i].line.length (bt s.ae[i].line)::ai s.ae[i].line.length::ai j::b8 []))))),[(1,⟨2,[aW 1 [di s.time,di s.num,di s.token, .aC s.ax.length (bT s.ax), .aC s.ae.length (aU s.ae), .aC s.aI.length (ct s.aI)],none,none,none,none,none,none]⟩),(22,⟨2,[]⟩),(25,⟨2,[]⟩),(28,⟨2,[]⟩),(33,⟨2,[]⟩),(34,⟨2,[]⟩),(35,⟨2,[]⟩),(4,⟨2,[none,b9 1 1 (ag (ia s i s.ae[i] j))]⟩),(6,⟨2,[]⟩),(47,⟨2,[]⟩),(50,⟨2,[]⟩),(53,⟨2,[]⟩),(54,⟨2,[]⟩),(55,⟨2,[]⟩),(62,⟨2,[]⟩),(8,⟨2,[]⟩),(9,⟨2,[]⟩),(74,⟨2,[]⟩),(82,⟨2,[]⟩),(85,⟨2,[]⟩),(90,⟨2,[]⟩),(91,⟨2,[]⟩),(92,⟨2,[]⟩),(103,⟨2,[]⟩),(104,⟨2,[]⟩)]⟩)
    (λ j=>j≤s.ae[i].line.length) (λ _=>()) (λ j=>s.ae[i].line.length - j) 0
    (Gh.canon [1,4] [] [] zK rfl rfl) (bc _) ?_
   intro j hj0 hF2 K2 hK2;refine zw ?_;refine aq (λ hlt2=> ?_) (λ hge2=> ?_)
   .have hj:j<s.ae[i].line.length:=by simpa using hlt2
    have hat2:=mm hj;have hw2:=bz hj (by omega);have q6:=q5 _ (cb hj);have wd:IntKind.u8.wrap s.ae[i].line[j]=s.ae[i].line[j]:=dj (by omega) (by omega);have hlj:(ia s i s.ae[i] j).length≤300:=by rw[ia,aG,aG,DJ,cu];omega
    have hle3:((ia s i s.ae[i] j).length+1≤2^47)=True:=b5 (by omega);have hsl3:(ia s i s.ae[i] (j+1)).length=(ia s i s.ae[i] j).length+1:=by rw[Cw hj,aG,bG]
    refine az (I hat2 (I @eu (I t1 (I wd (I hle3 (I @dD bw)))))) ?_;exact hK2 _ (j+1) (Gh.canon [1,4] [] [] (zk (I hw2 hsl3)) rfl (by rw[Cw hj];simp only[b9,ag,fU];rfl)) hj rfl (by omega)
   .have hj:j=s.ae[i].line.length:=by
     have:¬(j:Int)<s.ae[i].line.length:=by simpa using hge2
     omega
    subst hj;refine az trivial ?_;exact hK _ (i+1) (Gh.canon [1,4] [] [] (by simp only[hw,Dp hi,dT,lB,lH,lA,lE,lF,lG,iO,kV,jj,jo,fV,l5,D.v.injEq,l9];try(repeat'(first|rfl|omega|with_reducible apply And.intro))) rfl (by rw[Dp hi];rfl)) hi rfl (by omega)
  .have hi:i=s.ae.length:=by
    have:¬(i:Int)<s.ae.length:=by simpa using hge
    omega
   subst hi;clear hK;have hml:=xD h;have w3:IntKind.u8.wrap (s.aI.length:Int)=s.aI.length:=dj (by omega) (by omega);have hb2:=Ax h s.ae.length;have hle2:((f7 s s.ae.length).length+1≤2^47)=True:=b5 (by omega);refine az (I hle2 (I t1 (I w3 @dD))) ?_;refine bq (τ:=Nat) (λ i=>⟨(js (.one (.own ⟨4,1,1⟩ 0 (jQ s i).length)::tZ (b8 (b8 (al s.aI.length (ct s.aI)::ai s.aI.length::ai i::vc []))))),[(1,⟨2,[]⟩),(22,⟨2,[]⟩),(25,⟨2,[]⟩),(28,⟨2,[]⟩),(33,⟨2,[]⟩),(34,⟨2,[]⟩),(35,⟨2,[]⟩),(4,⟨2,[none,b9 1 1 (ag (jQ s i))]⟩),(6,⟨2,[]⟩),(47,⟨2,[]⟩),(50,⟨2,[]⟩),(53,⟨2,[]⟩),(54,⟨2,[]⟩),(55,⟨2,[]⟩),(62,⟨2,[]⟩),(8,⟨2,[]⟩),(9,⟨2,[]⟩),(74,⟨2,[]⟩),(82,⟨2,[]⟩),(85,⟨2,[]⟩),(90,⟨2,[]⟩),(91,⟨2,[]⟩),(92,⟨2,[]⟩),(103,⟨2,[]⟩),(104,⟨2,[]⟩),(112,⟨2,[]⟩),(14,⟨2,[]⟩),(15,⟨2,[]⟩),(129,⟨2,[]⟩),(134,⟨2,[]⟩)]⟩)
    (λ i=>i≤s.aI.length) (λ _=>()) (λ i=>s.aI.length - i) 0
    (Gh.canon [4] [14,15,129,134] [] (zk (I @Dc (I @aG.{0} @bG.{0}))) rfl (by rw[Dc];simp only[b9,ag,fU];rfl)) (bc _) ?_
   intro i hi0 hF K hK;refine zw ?_;refine aq (λ hlt=> ?_) (λ hge=> ?_)
   .have hi:i<s.aI.length:=by simpa using hlt
    have hat:=nE hi;have hw:=bz hi (by omega);have hma:=h.lx _ (cb hi);have hpa:=Iu s.aI[i] hma;have hb3:=Ay h i;have hal:=B5 hma;have hle3:((jQ s i).length+(fE s.aI[i]).length≤2^47)=True:=b5 (by omega);have hsl3:(jQ s (i+1)).length=(jQ s i).length+(fE s.aI[i]).length:=by rw[C5 hi,aG]
    refine zL (I hat (I @cN (I @dD (I hle3 (I @ij bw))))) (hpa) ?_;exact hK _ (i+1) (Gh.canon [4] [] [] (zk (I hw hsl3)) rfl (by rw[C5 hi];simp only[b9,ag,fU];rfl)) hi rfl (by omega)
   .have hi:i=s.aI.length:=by
     have:¬(i:Int)<s.aI.length:=by simpa using hge
     omega
    subst hi;refine az trivial ?_;rfl
theorem BV (l:List Int) (hl:l.length<2^62) (p:Int->Bool) (f:Nat) (caps:List C) (hc:gD [] (caps.map AV.one)=some (caps.map λ c=> .f (.one c))) (hc2:bW.lendCs [] caps=some caps)
  (hp:∀x∈l,ah prog f (.f (Og x)::caps.map λ c=> .f (.one c)) (λ r o=>r=[rb (p x)]/\o=[])):
  ah prog 115 [.f (al l.length (bt l)), .f (.one (.fx f caps))] (λ r o=>r=[rb (l.any p)]/\o=[]):=by
 refine zh func115 results115 ntmps115 call115 ?_;simp only[f115,Option.getD];refine vo hc2 ?_;refine eb (XE l hl p f caps hc hp) ?_;refine zw ?_;rw[xI]
abbrev Oo:aX->AV:=λ x=> .agg (x.enc.map C.d)
theorem XT (l:List aX) (hl:l.length<2^62) (p:aX->Bool) (f:Nat) (caps:List C) (hc:gD [] (caps.map AV.one)=some (caps.map λ c=> .f (.one c)))
  (hp:∀x∈l,ah prog f (.f (Oo x)::caps.map λ c=> .f (.one c)) (λ r o=>r=[rb (p x)]/\o=[])):
  ah prog 118 [.f (al l.length (dw l)), .f (.one (.fx f caps))] (λ r o=>r=[ri (cM p l 0)]/\o=[]):=by
 refine zh func118 results118 ntmps118 call118 ?_;simp only[f118,Option.getD];refine zw ?_;refine bq (τ:=Nat) (λ i=>⟨(al l.length (dw l):: .one (.fx f caps)::dM (ai 0::dd::al l.length (dw l)::ai l.length::ai i::nz [])),[]⟩) (λ i=>i≤l.length) (λ i=>cM p (l.drop i) i) (λ i=>l.length - i) 0 (Gh.fB ?_) (bc _) ?_
 .simp only[dT,gO,gN,gQ,fV]
 intro i hi0 hF K hK;refine zw ?_;rw[vw];refine⟨trivial,λ hlt=> ?_,λ hge=> ?_⟩
 .have hi:i<l.length:=by simpa using hlt
  rw[cB hi,cM]at hF;have hat:=qg hi;simp only[dW,c5]at hat;refine vo (I @cQ (I hat hc)) ?_;refine⟨⟨yg i,by omega⟩, ?_⟩;refine eb (hp _ (cb hi)) ?_;refine zw ?_;refine aq (λ hb=> ?_) (λ hb=> ?_)
  .rw[aj hb]at hF;refine zw ?_;rw[hF];rfl
  .rw[aa (by simp[hb])]at hF;refine zw ?_;refine hK _ (i+1) (Gh.fB ?_) hi (by simp only[cB hi,cM];rw[aa (by simp[hb])];rfl) (by omega);have hw:IntKind.i64.wrap ((i:Int)+1)=((i+1:Nat):Int):=by rw[wrap64 (by omega) (by omega)];rfl
   simp only[hw,dT,gO,gN,gQ]
 .have hi:i=l.length:=by
   have:¬(i:Int)<l.length:=by simpa using hge
   omega
  rw[hi,eL,cM]at hF;refine zw ?_;rw[hF];rfl
theorem Vc (l:List aX) (hl:l.length<2^62) (p:aX->Bool) (f:Nat) (caps:List C) (hc:gD [] (caps.map AV.one)=some (caps.map λ c=> .f (.one c))) (hc2:bW.lendCs [] caps=some caps)
  (hp:∀x∈l,ah prog f (.f (Oo x)::caps.map λ c=> .f (.one c)) (λ r o=>r=[rb (p x)]/\o=[])):
  ah prog 77 [.f (al l.length (dw l)), .f (.one (.fx f caps))] (λ r o=>r=[rb (l.any p)]/\o=[]):=by
 refine zh func77 results77 ntmps77 call77 ?_;simp only[f77,Option.getD];refine vo hc2 ?_;refine eb (XT l hl p f caps hc hp) ?_;refine zw ?_;rw[xI]
def aZ (n:Int):Bool:=decide (n<0)||decide (n>bj)
def pR (n:Int):Bool:=decide (n≥0)&&decide (n≤bj)
theorem Nh (n:Int):(!aZ n)=pR n:=by unfold aZ pR;rw[nK];simp
theorem Jk (n:Int):ah prog 117 [.f (ai n)] (λ r o=>r=[rb (aZ n)]/\o=[]):=by refine zh func117 results117 ntmps117 call117 ?_;simp only[f117,Option.getD];refine Ew trivial ?_;rfl
theorem Js (l:List Int) (hl:l.length<2^62):ah prog 76 [.f (al l.length (bt l))] (λ r o=>r=[rb (!l.any aZ)]/\o=[]):=by
 refine zh func76 results76 ntmps76 call76 ?_;simp only[f76,Option.getD]
 repeat'(first|exact zC|refine sa ?_|((first|((try refine eH ?_);apply eb)|(apply fm;intro _));(solve|exact(BV l hl aZ _ [] rfl rfl (λ x _=>Jk x))|(refine ah.le (BV l hl aZ _ [] rfl rfl (λ x _=>Jk x)) ?_;exact zM)|fail);try case hn=>rfl)|(apply aq<;>intro hb)|(apply I;exact zI)|(apply I<;>intro hg))
theorem xo (v least:Int):ah prog 85 [.f (ai v), .f (ai least)] (λ r o=>r=[rb (decide (v≥least)&&decide (v≤bj))]/\o=[]):=by refine zh func85 results85 ntmps85 call85 ?_;simp only[f85,Option.getD];exact Bn trivial
def oJ.may (t:oJ):Bool:=pR t.view&&pR t.slot
theorem J2 (t:oJ):ah prog 86 [.f (.agg [di t.view,di t.slot])] (λ r o=>r=[rb (oJ.may t)]/\o=[]):=by refine zh func86 results86 ntmps86 call86 ?_;simp only[f86,Option.getD];refine Ew trivial ?_;simp[oJ.may,pR,eJ]
theorem U3 (r q:aX):ah prog 78 [.f (.agg (r.enc.map C.d)), .f (.one (.fJ q.enc))] (λ x o=>x=[rb (r.af==q.af)]/\o=[]):=by refine zh func78 results78 ntmps78 call78 ?_;simp only[f78,Option.getD];exact Bn trivial
theorem XL {l:List aX} {i:Nat} (hi:i≤l.length):(dw l).take (i*5)=dw (l.take i):=by
 have h:dw l=dw (l.take i)++dw (l.drop i):=by rw[←v7,lN]
 rw[h,List.take_left' (by rw[cQ,cu];congr 1;omega)]
def kM (l:List aX):Nat->List aX->Bool
 |_,[]=>true
 |i,r::rest=>if(!aX.may r||(l.take i).any (λ o=>o.af==r.af))=true then false else kM l (i+1) rest
def Batch.may (b:Batch):Bool:=
 if b.fill=true then b.view==0&&b.time==0&&(b.bB.view==0&&b.bB.slot==0)&&(b.reqs.length:Int)==0
 else if(!![b.view,b.time,b.bB.view,b.bB.slot].any aZ||decide ((b.reqs.length:Int)>3))=true then false else kM b.reqs 0 b.reqs
theorem xd (b:Batch) (hok:b.ok):ah prog 38 [.f (.agg b.aC)] (λ r o=>r=[rb (Batch.may b)]/\o=[]):=by
 have hlen:b.reqs.length<2^42:=hok.2.2.2.2.1;have hreq:∀r∈b.reqs,r.ok:=hok.2.2.2.2.2;refine zh func38 results38 ntmps38 call38 ?_;simp only[f38,Option.getD]
 repeat'(first|exact zC|refine sa ?_|((first|((try refine eH ?_);apply eb)|(apply fm;intro _));(solve|exact(Js [_,_,_,_] (by simp))|(refine ah.le (Js [_,_,_,_] (by simp)) ?_;exact zM)|fail);try case hn=>rfl)|(apply aq<;>intro hb)|(apply I;exact zI)|(apply I<;>intro hg))
 .rw[Batch.may,aj (by assumption)]
 .rw[Batch.may,aa (by simp_all),aj (by assumption)]
 rename_i hf;have hm:Batch.may b=kM b.reqs 0 b.reqs:=by rw[Batch.may,aa (by simp[hf]),aa (by rw[hb];simp)]
 rw[hm];refine zw ?_
 refine bq (τ:=Nat×Nat) (λ t=>⟨(dd:: .one (.ptr ⟨1,0,0⟩ 0)::ab false::js (b8 (al b.reqs.length (dw b.reqs)::ai b.reqs.length::ai t.1::EF []))),
  [(1,{next:=7,l:=[aW 0 [db b.fill,di b.view,di b.bB.view,di b.bB.slot,di b.time, .aC b.reqs.length (dw b.reqs)],none,none,none,none,none,none]}),(37,⟨1,[]⟩),(4,⟨t.2,[]⟩)]⟩)
  (λ t=>t.1≤b.reqs.length) (λ t=>kM b.reqs t.1 (b.reqs.drop t.1)) (λ t=>b.reqs.length - t.1) (0,0) (Gh.fj [1] [4] ?_ rfl) (bc _) ?_
 .simp only[dT,gO,gN,gQ,fV]
 intro⟨i,e⟩ hi0 hF K hK;simp only at hi0 hF hK⊢;refine zw ?_;rw[vw];refine⟨trivial,λ hlt=> ?_,λ hge=> ?_⟩
 .have hi:i<b.reqs.length:=by simpa using hlt
  rw[cB hi,kM]at hF;have hat:=qg hi;simp only[dW,c5]at hat;have hro:=hreq _ (cb hi);have hlt':(b.reqs.take i).length=i:=by rw[cu];omega
  have hc:=Vc (b.reqs.take i) (by omega) (λ o=>o.af==b.reqs[i].af) 78 [.fJ b.reqs[i].enc] rfl rfl (λ x _=>U3 x _);rw[hlt',←XL hi0]at hc
  repeat'(first|exact zC|refine za (I @cQ (I hat (I @Int.toNat_zero (I @gW (I @i7 @fV))))) ?_|((first|((try refine eH ?_);apply eb)|(apply fm;intro _));(solve|exact(zH _ hro)|(refine ah.le (zH _ hro) ?_;exact zM)|fail);try case hn=>rfl)|refine zx (hc) ?_|(apply aq<;>intro hb)|(apply I;exact zI)|(apply I<;>intro hg))
  .rw[aj hb,cC]at hF;rw[←hF]
  .rw[aa (by rw[hb];simp)]at hF;refine hK _ (i+1,_) (Gh.fj [1] [] ?_ rfl) hi (by simp only[cB hi,kM];rw[aa (by rw[hb];simp)]) (by simp only;omega);simp only[bz hi (by omega),dT,gO,gN,gQ]
 .have hi:i=b.reqs.length:=by
   have:¬(i:Int)<b.reqs.length:=by simpa using hge
   omega
  rw[hi,eL,cC,kM]at hF;refine zw ?_;rw[←hF]
theorem aaA (l:List aX) (hl:l.length<2^42) (hreq:∀r∈l,r.ok):ah prog 87 [.f (al l.length (dw l))] (λ r o=>r=[rb (if decide ((l.length:Int)>3)=true then false else kM l 0 l)]/\o=[]):=by
 refine zh func87 results87 ntmps87 call87 ?_;simp only[f87,Option.getD];refine zw ?_;refine aq (λ hb=> ?_) (λ hb=> ?_)
 .refine zw ?_;rw[aj hb]
 rw[aa (by rw[hb];simp)];refine zw ?_;refine bq (τ:=Nat) (λ i=>⟨(al l.length (dw l)::dd::ab false::ai i::rV []),[]⟩)
  (λ i=>i≤l.length) (λ i=>kM l i (l.drop i)) (λ i=>l.length - i) 0 (Gh.fB ?_) (bc _) ?_
 .simp only[dT,gO,gN,gQ,fV]
 intro i hi0 hF K hK;refine zw ?_;refine aq (λ hlt=> ?_) (λ hge=> ?_)
 .have hi:i<l.length:=by simpa using hlt
  rw[cB hi,kM]at hF;have hat:=qg hi;simp only[dW,c5]at hat;have hro:=hreq _ (cb hi)
  repeat'(first|exact zC|refine za (I @cQ hat) ?_|((first|((try refine eH ?_);apply eb)|(apply fm;intro _));(solve|exact(xi _ hro)|(refine ah.le (xi _ hro) ?_;exact zM)|fail);try case hn=>rfl)|(apply aq<;>intro hb)|(apply I;exact zI)|(apply I<;>intro hg))
  .rw[aj (by rw[hb];rfl),cC]at hF;rw[←hF]
  rename_i hm;have hm:aX.may l[i]=true:=by simpa using hb
  refine zw ?_;refine bq (τ:=Nat) (λ k=>⟨(al l.length (dw l)::dd::ab false::ai i::ai k::yz []),[]⟩)
   (λ k=>k≤i) (λ k=>((l.take i).drop k).any (λ o=>o.af==l[i].af)) (λ k=>i - k) 0 (Gh.fB ?_) (bc _) ?_
  .simp only[dT,gO,gN,gQ,fV]
  intro k hk0 hF2 K2 hK2;refine zw ?_;refine aq (λ hlt2=> ?_) (λ hge2=> ?_)
  .have hk:k<i:=by simpa using hlt2
   have hkl:k<l.length:=by omega
   have hat2:=qg hkl;simp only[dW,c5]at hat2;have hd:(l.take i).drop k=l[k]::(l.take i).drop (k+1):=by rw[cB (by rw[cu];omega)];congr 1;rw[wy]
   rw[hd,pB,cC]at hF2
   repeat'(first|exact zC|refine za (I @cQ (I hat hat2)) ?_|(apply aq<;>intro hb)|(apply I;exact zI)|(apply I<;>intro hg))
   .rw[hb,Bool.true_or]at hF2;rw[aj (by rw[←hF2,Bool.or_true]),cC]at hF;rw[←hF]
   .rw[hb,lR]at hF2;refine hK2 _ (k+1) (Gh.fB ?_) hk (by rw[hd,pB,hb,lR]) (by omega);simp only[bz hk (by omega),dT,gO,gN,gQ]
  .have hk:k=i:=by
    have:¬(k:Int)<i:=by simpa using hge2
    omega
   rw[hk,List.drop_of_length_le (by rw[cu];omega),rS,cC]at hF2;rw[aa (by rw[←hF2,hm];simp)]at hF;refine zw ?_;refine hK _ (i+1) (Gh.fB ?_) hi (by simp only[cB hi,kM];rw[aa (by rw[←hF2,hm];simp)]) (by omega);simp only[bz hi (by omega),dT,gO,gN,gQ]
 .have hi:i=l.length:=by
   have:¬(i:Int)<l.length:=by simpa using hge
   omega
  rw[hi,eL,cC,kM]at hF;refine zw ?_;rw[←hF]
theorem wY (b:Batch) (hok:b.ok):ah prog 46 [.f (.agg b.aC)] (λ r o=>r=[rb (Batch.may b)]/\o=[]):=by
 refine zh func46 results46 ntmps46 call46 ?_;simp only[f46,Option.getD]
 repeat'(first|exact zC|refine sa ?_|((first|((try refine eH ?_);apply eb)|(apply fm;intro _));(solve|exact(xo _ _)|(refine ah.le (xo _ _) ?_;exact zM)|fail);try case hn=>rfl)|refine zx (J2 b.bB) ?_|refine zx (aaA b.reqs hok.2.2.2.2.1 hok.2.2.2.2.2) ?_|(apply aq<;>intro hb)|(apply I;exact zI)|(apply I<;>intro hg))
 .rw[Batch.may,aj (by assumption)];refine congrArg (λ b=>[rb b]) ?_
  ac_rfl
 .refine congrArg (λ b=>[rb b]) ?_;have e:(![b.view,b.time,b.bB.view,b.bB.slot].any aZ)=(pR b.view&&pR b.time&&oJ.may b.bB):=by simp[oJ.may,←Nh,eJ]
  rw[Batch.may,aa (show¬b.fill=true by rw[hb];simp),e];show(pR b.view&&pR b.time&&oJ.may b.bB&&_)=_;generalize (pR b.view&&pR b.time&&oJ.may b.bB)=q;generalize decide ((b.reqs.length:Int)>3)=d;cases q<;>cases d<;>rfl
def kB (k n:Int) (s:ByteArray):List Int:=[k]++(aK n++iU s)
def gj (r:aX):List Int:=[r.af]++(aK r.seq++kB r.kind r.br r.name)
theorem sk {k n:Int} {s:ByteArray} (h:jq k n s=true):1≤k/\k≤6/\0≤n/\n≤2305843009213693952/\s.size≤12:=by
 unfold jq at h;split at h
 .cases h
 .rename_i h1;split at h
  .cases h
  .rename_i h2;have hk:1≤k/\k≤6:=by simp at h1;omega
   have hn:0≤n/\n≤2305843009213693952:=by
    split at h
    .simp at h;omega
    .simp at h;omega
   refine⟨hk.1,hk.2,hn.1,hn.2, ?_⟩;cases hc:(k==3||k==4||k==5)
   .simp only[hc,gV,lR,eR,ec]at h2;have:s.toList=(⟨#[]⟩:ByteArray).toList:=by simpa only[Bb,pq,iz]using h2
    have:s.size=0:=by have:=congrArg List.length this;rw[yW,yW,mC]at this;exact this
    omega
   .simp only[hc,ec,dx,gV,nR]at h2;have hn:fb s=true:=by simpa using h2
    unfold fb at hn;simp only[bM,dX]at hn;omega
theorem Df (k n:Int) (s:ByteArray):(kB k n s).length=10+s.size:=by simp[kB,cg,rj];omega
theorem t8 (v:Int):(ag (aK v)).take 8=ag (aK v):=dk (by rw[oi];decide)
theorem YI (k n:Int) (s:ByteArray) (h:jq k n s=true):ah prog 65 [.f (.agg [di k,di n,dS s])] (λ r o=>r=[.one (.own 1 (kB k n s).length (ag (kB k n s)) false),ri 0]/\o=[]):=by
 refine zh func65 results65 ntmps65 call65 ?_;simp only[f65,Option.getD];obtain⟨f1,f2,f3,f4,f5⟩:=sk h;have hmy:=DW k n s (by omega);rw[h]at hmy;have hpb:=JQ k (by omega);have hpn:=ur n (by omega);have hpt:=FB s (by omega);rw[Ho]at hpt;have hcc:ah prog 66 [.f (al 3 [.sl 1 (ag [k]), .sl 8 (ag (aK n)), .sl (1+s.size) (ag (iU s))])] (λ r o=>r=[.one (.own 1 (kB k n s).length (ag (kB k n s)) false)]/\o=[]):=by
  have hc:=uz [[k],aK n,iU s] (by simp) (λ l hl=>by
   simp only[cF,iA,iR]at hl;rcases hl with rfl|rfl|rfl
   .simp
   .rw[cg];decide
   .rw[rj];omega)
  rw[show [[k],aK n,iU s].flatten=kB k n s from by simp[kB]]at hc;rw[←rj s];exact hc
 have t2:(ag (iU s)).take (1+s.size)=ag (iU s):=by rw[←rj s];exact dD
 exact zW (I t8 t2) (I (hmy) (I (hpb) (I (hpn) (I (hpt) (hcc)))))
theorem uv {r:aX} (h:aX.may r=true):(0≤r.af/\r.af<8)/\(1≤r.seq/\r.seq≤2305843009213693952)/\jq r.kind r.br r.name=true/\r.ok:=by unfold aX.may at h;have hH:bj=2305843009213693952:=rfl;simp only[bM,dX]at h;have f:=sk h.2;refine⟨⟨h.1.1.1.1,h.1.1.1.2⟩,⟨h.1.1.2,by omega⟩,h.2, ?_⟩;unfold aX.ok i64;omega
theorem Dq {r:aX} (h:aX.may r=true):(gj r).length=19+r.name.size/\r.name.size≤12:=by have f:=sk (uv h).2.2.1;refine⟨?_,f.2.2.2.2⟩;simp[gj,cg,Df];omega
theorem Kq (r:aX) (h:aX.may r=true):ah prog 22 [.f (.agg (r.enc.map C.d))] (λ x o=>x=[.one (.own 1 (gj r).length (ag (gj r)) false),ri 0]/\o=[]):=by
 refine zh func22 results22 ntmps22 call22 ?_;simp only[f22,Option.getD];obtain⟨e1,e2,e3,e4⟩:=uv h;have hmy:=zH r e4;rw[h]at hmy;have f:=sk e3;have hpb:=JQ r.af (by omega);have hpn:=ur r.seq (by omega);have hpt:=YI r.kind r.br r.name e3;have hcc:ah prog 66 [.f (al 3 [.sl 1 (ag [r.af]), .sl 8 (ag (aK r.seq)), .sl (kB r.kind r.br r.name).length (ag (kB r.kind r.br r.name))])] (λ x o=>x=[.one (.own 1 (gj r).length (ag (gj r)) false)]/\o=[]):=by
  have hc:=uz [[r.af],aK r.seq,kB r.kind r.br r.name] (by simp) (λ l hl=>by
   simp only[cF,iA,iR]at hl;rcases hl with rfl|rfl|rfl
   .simp
   .rw[cg];decide
   .rw[Df];omega)
  rw[show [[r.af],aK r.seq,kB r.kind r.br r.name].flatten=gj r from by simp[gj]]at hc;exact hc
 exact zW (I t8 @dD) (I (hmy) (I (hpb) (I (hpn) (I (hpt) (hcc)))))
def bp (l:List Int):List Int:=l.flatMap aK
theorem oe {l:List Int}:(bp l).length=8*l.length:=by
 induction l with
 |nil=>rfl
 |cons x l ih=>simp only[bp,fv,aG,cL,cg]at ih⊢;omega
theorem Fy {l:List Int} {i:Nat} (hi:i<l.length):bp (l.take (i+1))=bp (l.take i)++aK l[i]:=wZ _ hi
theorem uA (l:List Int) (hl:l.length≤10) (h:∀v∈l,0≤v/\v<4611686018427387904):ah prog 24 [.f (al l.length (bt l))] (λ r o=>r=[.one (.own 1 (bp l).length (ag (bp l)) false)]/\o=[]):=by
 refine zh func24 results24 ntmps24 call24 ?_;simp only[f24,Option.getD];refine az trivial ?_;refine bq (τ:=Nat) (λ i=>⟨(jt (.one (.own ⟨3,1,1⟩ 0 (bp (l.take i)).length)::js (al l.length (bt l)::ai l.length::ai i::qN []))),[(3,⟨2,[none,b9 1 1 (ag (bp (l.take i)))]⟩),(6,⟨2,[]⟩),(16,⟨2,[]⟩),(21,⟨2,[]⟩)]⟩)
  (λ i=>i≤l.length) (λ _=>()) (λ i=>l.length - i) 0
  ((Gh.nil (i:=3) (s:=3) (sz:=1) rfl).trans (Gh.canon [3] [6,16,21] [] zK rfl rfl)) (bc _) ?_
 intro i hi0 hF K hK;refine zw ?_;refine aq (λ hlt=> ?_) (λ hge=> ?_)
 .have hi:i<l.length:=by simpa using hlt
  have hat:=mm hi;have hw:=bz hi (by omega);have hpn:=ur l[i] (h _ (cb hi));have hle0:(bp (l.take i)).length≤80:=by rw[oe,cu];omega
  have hle:((bp (l.take i)).length+8≤2^47)=True:=b5 (by omega);have hsl:(bp (l.take (i+1))).length=(bp (l.take i)).length+8:=by rw[Fy hi,aG,cg]
  refine zL (I hat (I @eu (I hle (I t8 (I @dD (I @bE.{0,0} (I @cg bw))))))) (hpn) ?_;exact hK _ (i+1) (Gh.canon [3] [] [] (zk (I hw hsl)) rfl (by rw[Fy hi];simp only[b9,ag,fU];rfl)) hi rfl (by omega)
 .have hi:i=l.length:=by
   have:¬(i:Int)<l.length:=by simpa using hge
   omega
  subst hi;rw[lP];exact bA trivial
theorem Vs {l:List aX}:∀{i:Nat},i≤l.length->(kM l i (l.drop i)=true↔∀j (hj:j<l.length),i≤j->aX.may l[j]=true/\∀k (hk:k<j),l[k].af≠l[j].af):=by
 intro i hi;obtain⟨n,hn⟩:∃n,n=l.length - i:=⟨_,rfl⟩;induction n generalizing i with
 |zero=>
  have:i=l.length:=by omega
  rw[this,eL,kM];simp only[true_iff];intro j hj hij;omega
 |succ n ih=>
  have hil:i<l.length:=by omega
  rw[cB hil,kM];have ih:=ih (i:=i+1) (by omega) (by omega);have hany:(l.take i).any (λ o=>o.af==l[i].af)=false↔∀k (hk:k<i),l[k].af≠l[i].af:=by
   rw[wj];constructor
   .intro h k hk;have:=h (l[k]) (by rw[wq];exact⟨k,by omega,rfl⟩);simpa using this
   .intro h o ho;obtain⟨k,hk,rfl⟩:=wq.1 ho;simpa using h k (by omega)
  constructor
  .intro h;split at h
   .cases h
   .rename_i hc;have hc:(!aX.may l[i]||(l.take i).any (λ o=>o.af==l[i].af))=false:=by simpa using hc
    rw[iP]at hc;intro j hj hij;by_cases hji:j=i
    .subst hji;exact⟨by simpa using hc.1,hany.1 hc.2⟩
    .exact ih.1 h j hj (by omega)
  .intro h;obtain⟨h1,h2⟩:=h i hil (Nat.le_refl _);rw[aa (by rw[h1,hany.2 h2];simp)];exact ih.2 λ j hj hij=>h j hj (by omega)
theorem VE {l:List aX} (h:kM l 0 l=true):(∀r∈l,aX.may r=true)/\l.Pairwise λ a b=>a.af≠b.af:=by have h:=(Vs (l:=l) (i:=0) (bc _)).1 (by rw[cC];exact h);refine⟨λ r hr=> ?_,nt.2 λ i j hi hj hij=>(h j hj (bc _)).2 i hij⟩;obtain⟨j,hj,rfl⟩:=oA hr;exact(h j hj (bc _)).1
theorem IB {b:Batch} (h:Batch.may b=true) (hf:b.fill=false):(0≤b.view/\b.view≤bj)/\(0≤b.time/\b.time≤bj)/\(0≤b.bB.view/\b.bB.view≤bj)/\(0≤b.bB.slot/\b.bB.slot≤bj)/\b.reqs.length≤3/\
  (∀r∈b.reqs,aX.may r=true)/\b.reqs.Pairwise λ a b=>a.af≠b.af:=by
 unfold Batch.may at h;rw[aa (by rw[hf];simp)]at h;split at h
 .cases h
 .rename_i hc;have hc:(!![b.view,b.time,b.bB.view,b.bB.slot].any aZ||decide ((b.reqs.length:Int)>3))=false:=by simpa using hc
  rw[iP]at hc;obtain⟨c1,c2⟩:=hc;have hb:∀n:Int,aZ n=false->0≤n/\n≤bj:=λ n hn=>by unfold aZ at hn;simp at hn;omega
  have c1:[b.view,b.time,b.bB.view,b.bB.slot].any aZ=false:=by simpa using c1
  simp only[pB,rS,nR,iP]at c1;obtain⟨q1,q2,q3,q4⟩:=c1;obtain⟨g1,g2⟩:=VE h;exact⟨hb _ q1,hb _ q2,hb _ q3,hb _ q4,by simp at c2;omega,g1,g2⟩
abbrev tw (b:Batch):List Int:=[b.view,b.bB.view,b.bB.slot,b.time]
def ln (b:Batch) (i:Nat):List Int:=[0]++bp ((tw b).take i)
def jR (b:Batch) (i:Nat):List Int:=(ln b 4++[(b.reqs.length:Int)])++(b.reqs.take i).flatMap gj
def dB (b:Batch):List Int:=if b.fill=true then [1]else jR b b.reqs.length
theorem Dx (b:Batch) {i:Nat} (hi:i≤4):(ln b i).length=1+8*i:=by rw[ln,aG,oe,cu];simp;omega
theorem Zl (b:Batch) {i:Nat} (hi:i<(tw b).length):ln b (i+1)=ln b i++aK (tw b)[i]:=by rw[ln,Fy hi,ln,fH]
theorem C2 {b:Batch} {i:Nat} (hi:i<b.reqs.length):jR b (i+1)=jR b i++gj b.reqs[i]:=by rw[jR,wZ _ hi,jR,←fH]
theorem Dn {b:Batch}:jR b 0=ln b 4++[(b.reqs.length:Int)]:=by simp[jR]
theorem G7 {b:Batch} (h:∀r∈b.reqs,aX.may r=true) (i:Nat):(jR b i).length≤34+i*31:=by
 have:=xj gj (l:=b.reqs.take i) (k:=31) λ r hr=>by have:=Dq (h r (jm hr));omega
 have h2:(b.reqs.take i).length*31≤i*31:=gU _ (by rw[cu];omega);rw[jR,aG,aG,Dx b (by omega)];simp only[bG];omega
theorem vC {b:Batch} (h:Batch.may b=true):b.reqs.length≤3/\∀r∈b.reqs,aX.may r=true:=by
 cases hf:b.fill
 .have f:=IB h hf;exact⟨f.2.2.2.2.1,f.2.2.2.2.2.1⟩
 .unfold Batch.may at h;rw[aj hf]at h;simp only[bM,iz]at h;have:b.reqs=[]:=List.length_eq_zero_iff.1 (by omega);rw[this];exact⟨by simp,by simp⟩
theorem FU {b:Batch} (h:Batch.may b=true):∀v∈tw b,0≤v/\v≤2305843009213693952:=by
 have hH:bj=2305843009213693952:=rfl;intro v hv;cases hf:b.fill
 .obtain⟨a1,a2,a3,a4,_⟩:=IB h hf;simp only[tw,cF,iA,iR]at hv;rcases hv with rfl|rfl|rfl|rfl<;>omega
 .unfold Batch.may at h;rw[aj hf]at h;simp only[bM,iz]at h;simp only[tw,cF,iA,iR]at hv;rcases hv with rfl|rfl|rfl|rfl<;>omega
theorem GS {b:Batch} (h:Batch.may b=true):b.ok:=by obtain⟨h1,h2⟩:=vC h;have hn:=FU h;have n1:=hn b.view (by simp);have n2:=hn b.bB.view (by simp);have n3:=hn b.bB.slot (by simp);have n4:=hn b.time (by simp);unfold Batch.ok i64;refine⟨by omega,by omega,by omega,by omega,by omega,λ r hr=>(uv (h2 r hr)).2.2.2⟩
theorem Gk (b:Batch) (h:Batch.may b=true):ah prog 26 [.f (.agg b.aC)] (λ x o=>x=[.one (.own 1 (dB b).length (ag (dB b)) false),ri 0]/\o=[]):=by
 refine zh func26 results26 ntmps26 call26 ?_;simp only[f26,Option.getD];have hmy:=xd b (GS h);rw[h]at hmy;obtain⟨h1,h2⟩:=vC h;have hn:=FU h;cases hf:b.fill
 .rw[dB,aa (by rw[hf];simp)];rw[show b.aC=[db false,di b.view,di b.bB.view,di b.bB.slot,di b.time, .aC b.reqs.length (dw b.reqs)] from by rw[←hf]]at hmy;have hagg:∀(Z:List Nat) (r:Rs) (xs ys:List AV),fk Z r (AV.agg [di b.view,di b.bB.view,di b.bB.slot,di b.time]::xs) (AV.agg [di b.view,di b.bB.view,di b.bB.slot,di b.time]::ys)=fk Z r xs ys:=λ Z r xs ys=>C8 rfl rfl
  refine zL hf (hmy) ?_;refine bq (τ:=Nat) (λ i=>⟨(dd::cd 1::dM (.one (.own ⟨4,1,1⟩ 0 (ln b i).length)::vd (.agg [di b.view,di b.bB.view,di b.bB.slot,di b.time]::ai i::wQ []))),[(1,⟨2,[aW 1 [db false,di b.view,di b.bB.view,di b.bB.slot,di b.time, .aC b.reqs.length (dw b.reqs)],none,none,none,none,none,none]⟩),(19,⟨2,[]⟩),(4,⟨2,[none,b9 1 1 (ag (ln b i))]⟩),(7,⟨2,[]⟩),(36,⟨2,[]⟩),(41,⟨2,[]⟩)]⟩)
   (λ i=>i≤4) (λ _=>()) (λ i=>4 - i) 0
   (Gh.canon [1,4] [7,36,41] [] (zk hagg) rfl rfl) (bc _) ?_
  intro i hi0 hF K hK;refine zw ?_;refine aq (λ hlt=> ?_) (λ hge=> ?_)
  .have hi:i<4:=by simp at hlt;omega
   have hw:IntKind.i64.wrap ((i:Int)+1)=((i+1:Nat):Int):=bz hi (by omega);have hpn:=ur ((tw b)[i]'hi) (by have:=hn _ (cb (l:=tw b) hi);omega);have hle:((ln b i).length+8≤2^47)=True:=b5 (by rw[Dx b hi0];omega);have hsu:=Zl b (i:=i) hi;have hsl:(ln b (i+1)).length=(ln b i).length+8:=by rw[hsu,aG,cg]
   obtain⟨j,hj⟩:∃j,i+1=j:=⟨_,rfl⟩;rw[hj]at hw hsu hsl;rcases(show i=0∨i=1∨i=2∨i=3 by omega)with rfl|rfl|rfl|rfl
   all_goals
    refine zL (I hle (I t8 (I @dD (I @bE.{0,0} (I @cg bw))))) (hpn) ?_;exact hK _ j (Gh.canon [1,4] [] [] (zk (I hw (I hsl hagg))) rfl (by rw[hsu];simp only[b9,ag,fU];rfl)) (by omega) rfl (by omega)
  .have hi:i=4:=by
    have:¬(i:Int)<4:=by simpa using hge
    omega
   subst hi;have w3:IntKind.u8.wrap (b.reqs.length:Int)=b.reqs.length:=dj (by omega) (by omega);have hle:((ln b 4).length+1≤2^47)=True:=b5 (by rw[Dx b (Nat.le_refl _)];omega);have hz:(jR b 0).length=(ln b 4).length+1:=by rw[Dn,aG,bG]
   refine az (I w3 (I hle (I @dD @bE.{0,0}))) ?_;refine bq (τ:=Nat) (λ i=>⟨(js (.one (.own ⟨4,1,1⟩ 0 (jR b i).length)::lq (b8 (al b.reqs.length (dw b.reqs)::ai b.reqs.length::ai i::qN [])))),[(1,⟨2,[]⟩),(19,⟨2,[]⟩),(4,⟨2,[none,b9 1 1 (ag (jR b i))]⟩),(7,⟨2,[]⟩),(36,⟨2,[]⟩),(41,⟨2,[]⟩),(48,⟨2,[]⟩),(10,⟨2,[]⟩),(11,⟨2,[]⟩),(59,⟨2,[]⟩),(64,⟨2,[]⟩)]⟩)
    (λ i=>i≤b.reqs.length) (λ _=>()) (λ i=>b.reqs.length - i) 0
    (Gh.canon [4] [10,11,59,64] [] (zk hz) rfl (by rw[Dn];simp only[b9,ag,fU];rfl)) (bc _) ?_
   intro i hi0 hF K hK;refine zw ?_;refine aq (λ hlt=> ?_) (λ hge=> ?_)
   .have hi:i<b.reqs.length:=by simpa using hlt
    have hat:=qg hi;have hw:=bz hi (by omega);have hm:=h2 _ (cb hi);have hpt:=Kq b.reqs[i] hm;have hl0:=G7 h2 i;have hl1:=Dq hm;have hle:((jR b i).length+(gj b.reqs[i]).length≤2^47)=True:=b5 (by omega);have hsl:(jR b (i+1)).length=(jR b i).length+(gj b.reqs[i]).length:=by rw[C2 hi,aG]
    refine zL (I hat (I @cQ (I hle (I @dD (I @bE.{0,0} bw))))) (hpt) ?_;exact hK _ (i+1) (Gh.canon [4] [] [] (zk (I hw hsl)) rfl (by rw[C2 hi];simp only[b9,ag,fU];rfl)) hi rfl (by omega)
   .have hi:i=b.reqs.length:=by
     have:¬(i:Int)<b.reqs.length:=by simpa using hge
     omega
    subst hi;exact bA trivial
 .rw[dB,aj hf];rw[show b.aC=[db true,di b.view,di b.bB.view,di b.bB.slot,di b.time, .aC b.reqs.length (dw b.reqs)] from by rw[←hf]]at hmy;exact zW hf (hmy)
end Go.Proofs.YtliimajkpggbhaaGreat
