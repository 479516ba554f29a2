import Derived.Test.YtliimajkpggbhaaGreatL6
namespace Go.Proofs.YtliimajkpggbhaaGreat
open Go.Pk
set_option maxRecDepth 100000
set_option linter.unusedSimpArgs false
set_option linter.unusedVariables false
def zdS (s:ByteArray):List Int:=(s.size:Int)::s.data.toList.map fun b=>(b.toNat:Int)
theorem zoQ (s:ByteArray):ziN s=zad (zdS s):=by simp[ziN,zdS,zad,zAn]
theorem zce (s:ByteArray):(zdS s).length=1+s.size:=by simp[zdS,zi5,Nat.add_comm]
def zll (g:Grant):List Int:=zdS g.name++zbs g.token
def zbO (l:List Grant):List Int:=l.flatMap zll
def zcr (r:Reply):List Int:=[r.code]++(zbs r.session++([r.ahead,(r.held.length:Int)]++zbO r.held))
def zba (m:Memo):List Int:=[m.client]++(zbs m.seq++zcr m.reply)
theorem zaX (n:Int):(zbs n).length=8:=rfl
theorem zre (g:Grant):(zll g).length=9+g.name.size:=by simp[zll,zce,zaX];omega
theorem zgU:∀{l:List Grant} {k:Nat},(∀g∈l,g.name.size≤k)→(zbO l).length≤l.length*(9+k)
 |[],k,_=>by simp[zbO]
 |g::l,k,h=>by
  have h1:=zgU (l:=l) (k:=k) fun x hx=>h x (by simp[hx])
  have h2:=h g (by simp)
  rw[zbO,List.flatMap_cons,List.length_append,List.length_cons,zre,Nat.add_mul]
  unfold zbO at h1
  omega
theorem zyF (b:UInt8):zau (b.toNat:Int):=⟨by omega,by have:=b.toNat_lt;omega⟩
theorem zrf (v:Int):zau (IntKind.u8.wrap v):=by
 have e:IntKind.u8.wrap v=v % 256:=by
  unfold IntKind.wrap
  simp[IntKind.bits,IntKind.signed]
 rw[e];unfold zau;omega
theorem zdY (v:Int):∀x∈zbs v,zau x:=by
 intro x hx
 obtain⟨k,_,rfl⟩:=List.mem_map.1 hx
 exact zrf _
theorem zoR (s:ByteArray) (h:s.size≤255):∀x∈zdS s,zau x:=by
 intro x hx
 rcases List.mem_cons.1 hx with rfl|hx
 ·exact⟨by omega,by omega⟩
 ·obtain⟨b,_,rfl⟩:=List.mem_map.1 hx
  exact zyF b
theorem zti (v:Int):IntKind.u8.wrap v=v % 256:=by
 unfold IntKind.wrap
 simp[IntKind.bits,IntKind.signed]
theorem ztj (v:Int) (k:Nat):zlt v k=v / (2^(8*(7 - k))) % 256:=by
 rw[zlt,zti,Int.fdiv_eq_ediv_of_nonneg _ (Int.pow_nonneg (by decide))]
theorem zAk (v:Int) (h:0≤v∧v<4611686018427387904):ziB (zbs v)=v:=by
 have e:zbs v=[v / 72057594037927936 % 256,v / 281474976710656 % 256,v / 1099511627776 % 256,v / 4294967296 % 256,v / 16777216 % 256,v / 65536 % 256,v / 256 % 256,v % 256]:=by
  show List.map (zlt v) [0,1,2,3,4,5,6,7]=_
  simp only[List.map_cons,List.map_nil,ztj]
  simp
 rw[e]
 simp only[ziB,List.foldl_cons,List.foldl_nil]
 have d1:v / 65536=v / 256 / 256:=by omega
 have d2:v / 16777216=v / 65536 / 256:=by omega
 have d3:v / 4294967296=v / 16777216 / 256:=by omega
 have d4:v / 1099511627776=v / 4294967296 / 256:=by omega
 have d5:v / 281474976710656=v / 1099511627776 / 256:=by omega
 have d6:v / 72057594037927936=v / 281474976710656 / 256:=by omega
 have t0:0*256+v / 72057594037927936 % 256=v / 72057594037927936:=by omega
 have t1:v / 72057594037927936*256+v / 281474976710656 % 256=v / 281474976710656:=by rw[d6];omega
 have t2:v / 281474976710656*256+v / 1099511627776 % 256=v / 1099511627776:=by rw[d5];omega
 have t3:v / 1099511627776*256+v / 4294967296 % 256=v / 4294967296:=by rw[d4];omega
 have t4:v / 4294967296*256+v / 16777216 % 256=v / 16777216:=by rw[d3];omega
 have t5:v / 16777216*256+v / 65536 % 256=v / 65536:=by rw[d2];omega
 have t6:v / 65536*256+v / 256 % 256=v / 256:=by rw[d1];omega
 have t7:v / 256*256+v % 256=v:=by omega
 rw[t0,t1,t2,t3,t4,t5,t6,t7]
theorem zaE {bs a rest:List Int} {p:Nat} (h:bs.drop p=a++rest):bs.drop (p+a.length)=rest:=by
 rw[←List.drop_drop,h,List.drop_left]
theorem zoS {bs a rest:List Int} {p:Nat} (h:bs.drop p=a++rest) (ha:a≠[]):p+a.length≤bs.length:=by
 have:=congrArg List.length h
 rw[List.length_drop,List.length_append]at this
 have:0<a.length:=List.length_pos_iff.2 ha
 omega
theorem short_at {n p k:Nat} (h:p+k≤n):zcB n (p:Int) (k:Int)=false:=by
 unfold zcB
 simp;omega
theorem zhC {bs:List Int} {p:Nat} {x:Int} {rest:List Int} (h:bs.drop p=[x]++rest):zbP bs p=(x,((p+1:Nat):Int),0):=by
 have h1:=zoS h (by simp)
 simp only[List.length_singleton]at h1
 rw[zbP,if_neg (by rw[show(1:Int)=((1:Nat):Int) from rfl,short_at h1];simp),Int.toNat_natCast]
 have:bs.getD p 0=x:=by
  have:=congrArg (fun l=>l[0]?) h
  simp only[List.getElem?_drop,Nat.add_zero,List.singleton_append,List.getElem?_cons_zero]at this
  rw[List.getD_eq_getElem?_getD,this];rfl
 rw[this];simp
theorem zmg {bs:List Int} {p:Nat} {v:Int} {rest:List Int} (h:bs.drop p=zbs v++rest) (hv:0≤v∧v<4611686018427387904):zfy bs p=(v,((p+8:Nat):Int),0):=by
 have h1:=zoS h (by intro h;have:=congrArg List.length h;rw[zaX]at this;simp at this)
 rw[zaX]at h1
 have h2:(bs.drop p).take 8=zbs v:=by rw[h];exact List.take_left' (zaX v)
 rw[zfy,if_neg (by rw[show(8:Int)=((8:Nat):Int) from rfl,short_at h1];simp),Int.toNat_natCast,h2,zAk v hv,if_pos hv.2];simp
theorem zrg (s:ByteArray):strOf (s.data.toList.map fun b=>(b.toNat:Int))=s:=by
 unfold strOf
 rw[List.map_map]
 have:(fun n:Int=>UInt8.ofNat n.toNat)∘(fun b:UInt8=>(b.toNat:Int))=id:=by
  funext b;simp
 rw[this,List.map_id]
theorem zqh {bs:List Int} {p:Nat} {s:ByteArray} {most:Int} {rest:List Int} (h:bs.drop p=zdS s++rest) (hs:(s.size:Int)≤most):zcA bs p most=(s,((p+(1+s.size):Nat):Int),0):=by
 have h1:=zoS h (by simp[zdS])
 rw[zce]at h1
 have hg:bs.getD p 0=(s.size:Int):=by
  have:=congrArg (fun l=>l[0]?) h
  simp only[List.getElem?_drop,Nat.add_zero,zdS,List.cons_append,List.getElem?_cons_zero]at this
  rw[List.getD_eq_getElem?_getD,this];rfl
 have h2:(bs.drop (p+1)).take s.size=s.data.toList.map fun b=>(b.toNat:Int):=by
  rw[←List.drop_drop,h,zdS,List.cons_append,List.drop_succ_cons,List.drop_zero]
  exact List.take_left' (by simp[zi5])
 have hs1:=short_at (n:=bs.length) (p:=p) (k:=1) (by omega)
 have hs2:=short_at (n:=bs.length) (p:=p+1) (k:=s.size) (by omega)
 rw[Int.natCast_add]at hs2
 simp only[Int.ofNat_one,Int.natCast_one]at hs1 hs2
 rw[zcA,if_neg (by rw[hs1];simp),Int.toNat_natCast,hg,if_neg (by simpa using hs),if_neg (by rw[hs2];simp),Int.toNat_natCast,h2,zrg]
 simp;omega
theorem zlm {bs:List Int}:∀{l:List Grant} {p:Nat} {acc:List Grant} {rest:List Int},bs.drop p=zbO l++rest→(∀g∈l,g.name.size≤12∧0≤g.token∧g.token<4611686018427387904)→
  zcf bs l.length p acc=(acc++l,((p+(zbO l).length:Nat):Int),0)
 |[],p,acc,rest,h,_=>by simp[zcf,zbO]
 |g::l,p,acc,rest,h,hg=>by
  obtain⟨g1,g2⟩:=hg g (by simp)
  have h1:bs.drop p=zdS g.name++(zbs g.token++(zbO l++rest)):=by rw[h];simp[zbO,zll]
  have e1:=zqh h1 (most:=12) (by omega)
  have h2:=zaE h1
  rw[zce]at h2
  have e2:=zmg h2 g2
  have h3:=zaE h2
  rw[zaX]at h3
  have ih:=zlm (l:=l) (acc:=acc++[g]) h3 fun x hx=>hg x (by simp[hx])
  rw[List.length_cons,zcf,e1]
  simp only
  rw[e2]
  simp only[ne_eq,not_true_eq_false,if_false]
  rw[show({name:=g.name,token:=g.token}:Grant)=g from rfl,ih]
  have:(zbO (g::l)).length=1+g.name.size+8+(zbO l).length:=by simp[zbO,zll,zce,zaX];omega
  rw[this,List.append_assoc]
  simp;omega
theorem zc6 {r:Reply} (h:zbN r=true):(0≤r.code∧r.code≤12)∧(0≤r.session∧r.session≤2305843009213693952)∧(0≤r.ahead∧r.ahead≤3)∧r.held.length≤4∧zcg (zcC r.held) 0 r.held=true:=by
 unfold zbN at h
 have hH:zbx=2305843009213693952:=rfl
 simp only[Bool.and_eq_true,Bool.not_eq_true',Bool.or_eq_false_iff,decide_eq_false_iff_not,hH]at h
 obtain⟨⟨h1,h2⟩,h3⟩:=h
 refine⟨by omega,by omega,by omega,by omega,h3⟩
theorem zln {α:Type} {q:Nat→α→Bool}:∀{l:List α} {i:Nat},zcg q i l=true→∀x∈l,∃k,q k x=true
 |[],_,_,x,hx=>by cases hx
 |a::l,i,h,x,hx=>by
  rw[zcg]at h
  split at h
  ·rename_i hq
   rcases List.mem_cons.1 hx with rfl|hx
   ·exact⟨i,hq⟩
   ·exact zln h x hx
  ·cases h
theorem zdg {r:Reply} (h:zbN r=true):∀g∈r.held,g.name.size≤12∧0≤g.token∧g.token<4611686018427387904:=by
 intro g hg
 obtain⟨k,hk⟩:=zln (zc6 h).2.2.2.2 g hg
 unfold zcC at hk
 have hH:zbx=2305843009213693952:=rfl
 simp only[Bool.not_eq_true',Bool.or_eq_false_iff,decide_eq_false_iff_not,hH,Bool.not_eq_false']at hk
 obtain⟨⟨⟨h1,h2⟩,h3⟩,h4⟩:=hk
 have:nameP g.name=true:=by simpa using h1
 unfold nameP at this
 simp only[Bool.and_eq_true,decide_eq_true_eq]at this
 omega
theorem ztk {bs:List Int} {r:Reply} {p:Nat} {rest:List Int} (h:bs.drop p=zcr r++rest) (hr:zbN r=true):zft bs p=(r,((p+(zcr r).length:Nat):Int),0):=by
 obtain⟨f1,f2,f3,f4,f5⟩:=zc6 hr
 have h1:bs.drop p=[r.code]++(zbs r.session++([r.ahead]++([(r.held.length:Int)]++(zbO r.held++rest)))):=by rw[h];simp[zcr]
 have e1:=zhC h1
 have h2:=zaE h1
 have e2:=zmg (p:=p+[r.code].length) h2 (by omega)
 have h3:=zaE h2
 rw[zaX]at h3
 have e3:=zhC h3
 have h4:=zaE h3
 have e4:=zhC h4
 have h5:=zaE h4
 have e5:=zlm (acc:=[]) h5 (zdg hr)
 simp only[List.length_singleton]at e2 e3 e4 e5
 rw[zft,e1]
 simp only[ne_eq,not_true_eq_false,if_false]
 rw[e2]
 simp only[ne_eq,not_true_eq_false,if_false]
 rw[e3]
 simp only[ne_eq,not_true_eq_false,if_false]
 rw[e4]
 simp only[ne_eq,not_true_eq_false,if_false,Int.toNat_natCast]
 rw[e5]
 simp only[ne_eq,not_true_eq_false,if_false,List.nil_append]
 rw[if_neg (by omega),show(⟨r.code,r.session,r.ahead,r.held⟩:Reply)=r from rfl,if_neg (by rw[hr];simp)]
 have:(zcr r).length=1+8+1+1+(zbO r.held).length:=by simp[zcr,zaX];omega
 rw[this]
 simp;omega
theorem zbX {m:Memo} (h:answerB m=true):(0≤m.client∧m.client<8)∧(1≤m.seq∧m.seq≤2305843009213693952)∧zbN m.reply=true:=by
 unfold answerB at h
 have hH:zbx=2305843009213693952:=rfl
 simp only[Bool.and_eq_true,decide_eq_true_eq,hH]at h
 exact⟨by omega,by omega,h.2⟩
theorem zrh {bs:List Int} {m:Memo} {p:Nat} {rest:List Int} (h:bs.drop p=zba m++rest) (hm:answerB m=true):zf1 bs p=(m,((p+(zba m).length:Nat):Int),0):=by
 obtain⟨f1,f2,f3⟩:=zbX hm
 have h1:bs.drop p=[m.client]++(zbs m.seq++(zcr m.reply++rest)):=by rw[h];simp[zba]
 have e1:=zhC h1
 have h2:=zaE h1
 have e2:=zmg (p:=p+[m.client].length) h2 (by omega)
 have h3:=zaE h2
 rw[zaX]at h3
 have e3:=ztk h3 f3
 simp only[List.length_singleton]at e2 e3
 rw[zf1,e1]
 simp only[ne_eq,not_true_eq_false,if_false]
 rw[e2]
 simp only[ne_eq,not_true_eq_false,if_false]
 rw[e3]
 simp only[ne_eq,not_true_eq_false,if_false]
 rw[show(⟨m.client,m.seq,m.reply⟩:Memo)=m from rfl,if_neg (by rw[hm];simp)]
 have:(zba m).length=1+8+(zcr m.reply).length:=by simp[zba,zaX];omega
 rw[this]
 simp;omega
theorem zrd {l:List Grant} {i:Nat} (hi:i<l.length):zbO (l.take (i+1))=zbO (l.take i)++(zdS l[i].name++zbs l[i].token):=by
 rw[List.take_succ_eq_append_getElem hi,zbO,List.flatMap_append];simp[zbO,zll]
def zmf (r:Reply):List Int:=[r.code]++(zbs r.session++[r.ahead,(r.held.length:Int)])
def zkr (r:Reply) (i:Nat):List Int:=zmf r++zbO (r.held.take i)
theorem znJ {r:Reply} {i:Nat} (hi:i<r.held.length):zkr r (i+1)=(zkr r i++zdS r.held[i].name)++zbs r.held[i].token:=by
 rw[zkr,zrd hi,zkr];simp
theorem znK {r:Reply}:zkr r 0=zmf r:=by simp[zkr,zbO]
theorem zv0 {r:Reply}:zkr r r.held.length=zcr r:=by simp[zkr,zmf,zcr]
theorem zjR (r:Reply):(zmf r).length=11:=by simp[zmf,zaX]
set_option maxHeartbeats 1000000 in
theorem zoP (r:Reply) (h:zbN r=true):CallOK Tryz.prog 67 [.f (.agg r.lent)] (fun x o=>x=[.one (.own 1 (zcr r).length (zad (zcr r)) false),ri 0]∧o=[]):=by
 obtain⟨f1,f2,f3,f4,f5⟩:=zc6 h
 have hgr:=zdg h
 refine zh Tryz.func67 Tryz.results67 Tryz.ntmps67 Tryz.call67 ?_
 simp only[Tryz.f67,Option.getD]
 have hmy:=zgZ r ⟨by omega,fun g hg=>by have:=(hgr g hg).1;omega⟩
 rw[h]at hmy
 have hpn:=zdH r.session (by omega)
 have w1:IntKind.u8.wrap r.code=r.code:=zdT (by omega) (by omega)
 have w2:IntKind.u8.wrap r.ahead=r.ahead:=zdT (by omega) (by omega)
 have w3:IntKind.u8.wrap (r.held.length:Int)=r.held.length:=zdT (by omega) (by omega)
 have hcc:CallOK Tryz.prog 66 [.f (al 3 [.sl 1 (zad [r.code]), .sl 8 (zad (zbs r.session)), .sl 2 (zad [r.ahead,(r.held.length:Int)])])] (fun x o=>x=[.one (.own 1 11 (zad (zmf r)) false)]∧o=[]):=by
  have hc:=zjW [zad [r.code],zad (zbs r.session),zad [r.ahead,(r.held.length:Int)]] (by simp) (fun l hl=>by
   simp only[List.mem_cons,List.not_mem_nil,or_false]at hl
   rcases hl with rfl|rfl|rfl
   ·simp
   ·rw[zeC];decide
   ·simp)
  rw[show [zad [r.code],zad (zbs r.session),zad [r.ahead,(r.held.length:Int)]].flatten=zad (zmf r) from by simp[zmf,zad]]at hc
  rw[show(zad (zmf r)).length=11 from by rw[List.length_map,zjR]]at hc
  exact hc
 have t1:(zad (zbs r.session)).take 8=zad (zbs r.session):=List.take_of_length_le (by rw[zeC];decide)
 have t2:toDs (sub 0 2 1 [C.d (uD r.ahead),C.d (uD (r.held.length:Int))])=some [uD r.ahead,uD (r.held.length:Int)]:=rfl
 refine zL (I t1 (I t2 (I w1 (I w2 w3)))) (I (hmy) (I (hpn) (hcc))) ?_
 refine zai (τ:=Nat) (fun i=>⟨(dd::ptq 1::dq4 (.one (.own ⟨6,1,1⟩ 0 (zkr r i).length)::zzQ (al r.held.length (zaJ r.held)::ai r.held.length::ai i::zxV []))),[(1,⟨2,[obq 1 [di r.code,di r.session,di r.ahead, .lent r.held.length (zaJ r.held)],none,none,none,none]⟩),(19,⟨2,[]⟩),(4,⟨2,[]⟩),(25,⟨2,[]⟩),(34,⟨2,[]⟩),(35,⟨2,[]⟩),(36,⟨2,[]⟩),(6,⟨2,[none,roq 1 1 (zad (zkr r i))]⟩),(8,⟨2,[]⟩),(9,⟨2,[]⟩),(11,⟨2,[]⟩),(47,⟨2,[]⟩),(53,⟨2,[]⟩),(58,⟨2,[]⟩),(60,⟨2,[]⟩)]⟩)
  (fun i=>i≤r.held.length) (fun _=>()) (fun i=>r.held.length - i) 0
  (Gh.canon [1,6] [8,9,11,47,53,58,60] [] (zk (I @znK @zjR)) rfl (by rw[znK];rfl)) (Nat.zero_le _) ?_
 intro i hi0 hF K hK
 refine zw ?_
 refine zaa (fun hlt=> ?_) (fun hge=> ?_)
 ·have hi:i<r.held.length:=by simpa using hlt
  have hat:=zcw hi
  have hw:=zal hi (by omega)
  have hg:=hgr _ (List.getElem_mem hi)
  have hpt:=zid r.held[i].name (by omega)
  have hpm:=zdH r.held[i].token hg.2
  have hlb:(zkr r i).length≤11+4*21:=by
   rw[zkr,List.length_append,zjR]
   have:=zgU (l:=r.held.take i) (k:=12) fun g hx=>(hgr g (List.mem_of_mem_take hx)).1
   have:(r.held.take i).length≤4:=by rw[List.length_take];omega
   omega
  have hle:((zkr r i).length+(1+r.held[i].name.size)≤2^47)=True:=eq_true (by omega)
  have hle2:((zkr r i).length+(1+r.held[i].name.size)+8≤2^47)=True:=eq_true (by omega)
  have k1:(ziN r.held[i].name).take (1+r.held[i].name.size)=ziN r.held[i].name:=List.take_of_length_le (by rw[zhE];exact Nat.le_refl _)
  have k2:(zad (zbs r.held[i].token)).take 8=zad (zbs r.held[i].token):=List.take_of_length_le (by rw[zeC];decide)
  have k3:(zad (zkr r i)).take (zkr r i).length=zad (zkr r i):=List.take_of_length_le (by rw[List.length_map];exact Nat.le_refl _)
  have k4:(zad (zkr r i)++ziN r.held[i].name).take ((zkr r i).length+(1+r.held[i].name.size))=zad (zkr r i)++ziN r.held[i].name:=List.take_of_length_le (by rw[List.length_append,List.length_map,zhE];exact Nat.le_refl _)
  have hsl:(zkr r (i+1)).length=(zkr r i).length+(1+r.held[i].name.size)+8:=by rw[znJ hi,List.length_append,List.length_append,zce,zaX]
  refine zL (I hat (I @zar (I hle (I hle2 (I k1 (I k2 (I k3 (I k4 (I @zhE (I @List.length_map.{0,0} (I @zaX zca))))))))))) (I (hpt) (hpm)) ?_
  exact hK _ (i+1) (Gh.canon [1,6] [] [] (zk (I hw hsl)) rfl (by rw[znJ hi,zoQ];simp only[roq,zad,List.map_append];rfl)) hi rfl (by omega)
 ·have hi:i=r.held.length:=by
   have:¬(i:Int)<r.held.length:=by simpa using hge
   omega
  subst hi
  refine zL0 trivial ?_
  rw[zv0]
theorem zlk {r:Reply} (h:zbN r=true):(zcr r).length≤95:=by
 have hgr:=zdg h
 have hf:=(zc6 h).2.2.2.1
 have:=zgU (l:=r.held) (k:=12) fun g hg=>(hgr g hg).1
 have e:(zcr r).length=11+(zbO r.held).length:=by simp[zcr,zaX];omega
 omega
theorem zgT {m:Memo} (h:answerB m=true):(zba m).length≤104:=by
 have:=zlk (zbX h).2.2
 have e:(zba m).length=9+(zcr m.reply).length:=by simp[zba,zaX];omega
 omega
theorem zjQ {m:Memo} (h:answerB m=true):zcD m.reply:=by
 have hgr:=zdg (zbX h).2.2
 have hf:=(zc6 (zbX h).2.2).2.2.2.1
 exact⟨by omega,fun g hg=>by have:=(hgr g hg).1;omega⟩
theorem ziy (m:Memo) (h:answerB m=true):CallOK Tryz.prog 23 [.f (.agg m.lent)] (fun x o=>x=[.one (.own 1 (zba m).length (zad (zba m)) false),ri 0]∧o=[]):=by
 refine zh Tryz.func23 Tryz.results23 Tryz.ntmps23 Tryz.call23 ?_
 simp only[Tryz.f23,Option.getD]
 obtain⟨f1,f2,f3⟩:=zbX h
 have hmy:=zf5 m (zjQ h)
 rw[h]at hmy
 have hpn:=zdH m.seq (by omega)
 have hpr:=zoP m.reply f3
 have hrl:=zlk f3
 have w1:IntKind.u8.wrap m.client=m.client:=zdT (by omega) (by omega)
 have hcc:CallOK Tryz.prog 66 [.f (al 3 [.sl 1 (zad [m.client]), .sl 8 (zad (zbs m.seq)), .sl (zcr m.reply).length (zad (zcr m.reply))])] (fun x o=>x=[.one (.own 1 (zba m).length (zad (zba m)) false)]∧o=[]):=by
  have hc:=zjW [zad [m.client],zad (zbs m.seq),zad (zcr m.reply)] (by simp) (fun l hl=>by
   simp only[List.mem_cons,List.not_mem_nil,or_false]at hl
   rcases hl with rfl|rfl|rfl
   ·simp
   ·rw[zeC];decide
   ·rw[List.length_map];omega)
  rw[show [zad [m.client],zad (zbs m.seq),zad (zcr m.reply)].flatten=zad (zba m) from by simp[zba,zad]]at hc
  simp only[zuP,List.map_cons,List.map_nil,List.length_map,List.length_cons,List.length_nil,zaX]at hc
  exact hc
 have t1:(zad (zbs m.seq)).take 8=zad (zbs m.seq):=List.take_of_length_le (by rw[zeC];decide)
 have t2:(zad (zcr m.reply)).take (zcr m.reply).length=zad (zcr m.reply):=List.take_of_length_le (by rw[List.length_map];exact Nat.le_refl _)
 exact zW (I t1 (I t2 w1)) (I (hmy) (I (hpn) (I (hpr) (hcc))))
theorem zfh (v:Int) (h:0≤v∧v<4611686018427387904):CallOK Tryz.prog 69 [.f (ai v)] (fun r o=>r=[.one (.own 1 8 (zad (zbs v)) false)]∧o=[]):=by
 refine zh Tryz.func69 Tryz.results69 Tryz.ntmps69 Tryz.call69 ?_
 simp only[Tryz.f69,Option.getD]
 have hp:=zdH v h
 exact zW trivial (hp)
theorem zlj:∀ls:List (List Int),(ls.map zad).flatten=zad ls.flatten
 |[]=>rfl
 |l::ls=>by simp only[List.map_cons,List.flatten_cons,zlj ls,List.map_append]
theorem zfZ (ls:List (List Int)) (hl:ls.length<2^10) (hs:∀l∈ls,l.length≤2^12):
  CallOK Tryz.prog 66 [.f (al ls.length (ls.map fun l=> .sl l.length (zad l)))] (fun r o=>r=[.one (.own 1 ls.flatten.length (zad ls.flatten) false)]∧o=[]):=by
 have h:=zjW (ls.map zad) (by simpa using hl) (fun l h=>by
  obtain⟨x,hx,rfl⟩:=List.mem_map.1 h
  rw[List.length_map];exact hs x hx)
 rw[zlj,za6,List.length_map]at h
 have e:zuP (ls.map zad)=ls.map fun l=> .sl l.length (zad l):=by
  rw[zuP,List.map_map]
  exact List.map_congr_left fun l _=>by simp only[Function.comp,za6]
 rw[e]at h
 exact h
def ziM (x:Sess):List Int:=x.client::(zbs x.num++zbs x.renewed)
def lk0 (k:Lk):List Int:=zdS k.name++(k.holder::(zbs k.token++[(k.line.length:Int)]))
def zh9 (k:Lk):List Int:=lk0 k++k.line
def zkC (s:St):List Int:=zbs s.time++(zbs s.num++(zbs s.token++[(s.sess.length:Int)]))
def sb1 (s:St) (i:Nat):List Int:=zkC s++(s.sess.take i).flatMap ziM
def sb2 (s:St) (i:Nat):List Int:=(sb1 s s.sess.length++[(s.locks.length:Int)])++(s.locks.take i).flatMap zh9
def sb3 (s:St) (i:Nat):List Int:=(sb2 s s.locks.length++[(s.memos.length:Int)])++(s.memos.take i).flatMap zba
def zdX (s:St):List Int:=sb3 s s.memos.length
theorem zc5 {α:Type} (f:α→List Int) {l:List α} {i:Nat} (hi:i<l.length):(l.take (i+1)).flatMap f=(l.take i).flatMap f++f l[i]:=by
 rw[List.take_succ_eq_append_getElem hi,List.flatMap_append];simp
theorem zvY {s:St} {i:Nat} (hi:i<s.sess.length):sb1 s (i+1)=sb1 s i++ziM s.sess[i]:=by rw[sb1,zc5 _ hi,sb1,List.append_assoc]
theorem zvZ {s:St} {i:Nat} (hi:i<s.locks.length):sb2 s (i+1)=sb2 s i++zh9 s.locks[i]:=by rw[sb2,zc5 _ hi,sb2,←List.append_assoc]
theorem zqc {s:St} {i:Nat} (hi:i<s.memos.length):sb3 s (i+1)=sb3 s i++zba s.memos[i]:=by rw[sb3,zc5 _ hi,sb3,←List.append_assoc]
theorem zqd {s:St}:sb1 s 0=zkC s:=by simp[sb1]
theorem zqe {s:St}:sb2 s 0=sb1 s s.sess.length++[(s.locks.length:Int)]:=by simp[sb2]
theorem zqf {s:St}:sb3 s 0=sb2 s s.locks.length++[(s.memos.length:Int)]:=by simp[sb3]
theorem zd7 {α:Type} (f:α→List Int) {k:Nat}:∀{l:List α},(∀x∈l,(f x).length≤k)→(l.flatMap f).length≤l.length*k
 |[],_=>by simp
 |x::l,h=>by
  rw[List.flatMap_cons,List.length_append,List.length_cons,Nat.add_mul]
  have:=h x (by simp)
  have:=zd7 f (l:=l) fun y hy=>h y (by simp[hy])
  omega
theorem zjP (s:St):(zkC s).length=25:=by simp[zkC,zaX]
theorem znH (x:Sess):(ziM x).length=17:=by simp[ziM,zaX]
theorem zoL (k:Lk):(lk0 k).length=11+k.name.size:=by simp[lk0,zaX,zce];omega
theorem zoM (s:St) (i:Nat):(sb1 s i).length≤25+i*17:=by
 rw[sb1,List.length_append,zjP]
 have:=zd7 ziM (l:=s.sess.take i) (k:=17) fun x _=>by rw[znH];exact Nat.le_refl _
 have h2:(s.sess.take i).length≤i:=by rw[List.length_take];omega
 have:=Nat.mul_le_mul_right 17 h2
 omega
theorem zgr {s:St} (h:RightS s) {k:Lk} (hk:k∈s.locks):(zh9 k).length≤26∧k.name.size≤12∧(0≤k.holder∧k.holder≤255)∧(0≤k.token∧k.token<4611686018427387904)∧k.line.length≤3∧∀c∈k.line,0≤c∧c≤255:=by
 have hH:zbx=2305843009213693952:=rfl
 obtain⟨a,_,b,_⟩:=h.lok k hk
 obtain⟨h1,h2,h3⟩:=zcX.1 a
 obtain⟨l1,l2,_⟩:=zbY.1 b
 have hs:=zie h1
 refine⟨?_,hs,by omega,by omega,l1,fun c hc=> ?_⟩
 ·rw[zh9,List.length_append,zoL];omega
 ·have:=l2 c hc
  simp only[isClient,Bool.and_eq_true,decide_eq_true_eq]at this
  omega
def zmK (s:St) (i:Nat) (k:Lk) (j:Nat):List Int:=(sb2 s i++lk0 k)++k.line.take j
theorem zth {s:St} {i:Nat} {k:Lk}:zmK s i k 0=sb2 s i++lk0 k:=by simp[zmK]
theorem znI {s:St} {i:Nat} {k:Lk} {j:Nat} (hj:j<k.line.length):zmK s i k (j+1)=zmK s i k j++[k.line[j]]:=by
 rw[zmK,List.take_succ_eq_append_getElem hj,←List.append_assoc,zmK]
theorem zqg {s:St} {i:Nat} (hi:i<s.locks.length):zmK s i s.locks[i] s.locks[i].line.length=sb2 s (i+1):=by
 rw[zmK,List.take_length,zvZ hi,zh9,List.append_assoc]
theorem zoN {s:St} (h:RightS s) (i:Nat):(sb2 s i).length≤115+i*26:=by
 rw[sb2,List.length_append,List.length_append]
 have:=zoM s s.sess.length
 have:=h.sl
 have:=zd7 zh9 (l:=s.locks.take i) (k:=26) fun x hx=>(zgr h (List.mem_of_mem_take hx)).1
 have h2:(s.locks.take i).length≤i:=by rw[List.length_take];omega
 have:=Nat.mul_le_mul_right 26 h2
 simp only[List.length_singleton]
 omega
theorem zhB {s:St} (h:RightS s):s.memos.length≤8:=by
 have:=zif (a:=0) (b:=8) (zql.1 h.ms) (fun x hx=>by
  obtain⟨m,hm,rfl⟩:=List.mem_map.1 hx
  exact(zdj (h.mok m hm)).1)
 rw[List.length_map]at this
 omega
theorem zoO {s:St} (h:RightS s) (i:Nat):(sb3 s i).length≤250+i*104:=by
 rw[sb3,List.length_append,List.length_append]
 have:=zoN h s.locks.length
 have:=h.ll
 have:=zd7 zba (l:=s.memos.take i) (k:=104) fun x hx=>zgT (h.mok x (List.mem_of_mem_take hx))
 have h2:(s.memos.take i).length≤i:=by rw[List.length_take];omega
 have:=Nat.mul_le_mul_right 104 h2
 simp only[List.length_singleton]
 omega
theorem zat {l:List Int}:(zad l).take l.length=zad l:=List.take_of_length_le (by rw[za6];exact Nat.le_refl _)
set_option maxHeartbeats 4000000 in
theorem zrc (s:St) (h:RightS s):CallOK Tryz.prog 68 [.f (.agg s.lent)] (fun r o=>r=[.one (.own 1 (zdX s).length (zad (zdX s)) false),ri 0]∧o=[]):=by
 refine zh Tryz.func68 Tryz.results68 Tryz.ntmps68 Tryz.call68 ?_
 simp only[Tryz.f68,Option.getD]
 have hri:=right_ok s (zcl h)
 rw[zdv.2 h]at hri
 have hH:zbx=2305843009213693952:=rfl
 have ht:=h.time
 have hn:=h.num
 have hk:=h.token
 have hsl:=h.sl
 have hll:=h.ll
 have n1:=zfh s.time (by omega)
 have n2:=zfh s.num (by omega)
 have n3:=zfh s.token (by omega)
 have w1:IntKind.u8.wrap (s.sess.length:Int)=s.sess.length:=zdT (by omega) (by omega)
 have hcc:CallOK Tryz.prog 66 [.f (al 4 [.sl 8 (zad (zbs s.time)), .sl 8 (zad (zbs s.num)), .sl 8 (zad (zbs s.token)), .sl 1 (zad [(s.sess.length:Int)])])] (fun x o=>x=[.one (.own 1 25 (zad (zkC s)) false)]∧o=[]):=by
  have hc:=zfZ [zbs s.time,zbs s.num,zbs s.token,[(s.sess.length:Int)]] (by simp) (fun l hl=>by
   simp only[List.mem_cons,List.not_mem_nil,or_false]at hl
   rcases hl with rfl|rfl|rfl|rfl<;>simp[zaX])
  rw[show [zbs s.time,zbs s.num,zbs s.token,[(s.sess.length:Int)]].flatten=zkC s from by simp[zkC],zjP]at hc
  exact hc
 have t8:∀v:Int,(zad (zbs v)).take 8=zad (zbs v):=fun v=>List.take_of_length_le (by rw[zeC];decide)
 have t1:∀x:Int,toDs (sub 0 1 1 [C.d (uD x)])=some [uD x]:=fun _=>rfl
 refine zL (I t8 (I t1 w1)) (I (hri) (I (n1) (I (n2) (I (n3) (hcc))))) ?_
 refine zai (τ:=Nat) (fun i=>⟨(dd::ptq 1::dq2 (.one (.own ⟨4,1,1⟩ 0 (sb1 s i).length)::zwY (al s.sess.length (zbC s.sess)::ai s.sess.length::ai i::zxU (zez (zez []))))),[(1,⟨2,[obq 1 [di s.time,di s.num,di s.token, .lent s.sess.length (zbC s.sess), .lent s.locks.length (zam s.locks), .lent s.memos.length (zaZ s.memos)],none,none,none,none,none,none]⟩),(22,⟨2,[]⟩),(25,⟨2,[]⟩),(28,⟨2,[]⟩),(33,⟨2,[]⟩),(34,⟨2,[]⟩),(35,⟨2,[]⟩),(4,⟨2,[none,roq 1 1 (zad (sb1 s i))]⟩),(6,⟨2,[]⟩),(47,⟨2,[]⟩),(50,⟨2,[]⟩),(53,⟨2,[]⟩),(54,⟨2,[]⟩),(55,⟨2,[]⟩)]⟩)
  (fun i=>i≤s.sess.length) (fun _=>()) (fun i=>s.sess.length - i) 0
  (Gh.canon [1,4] [6,47,50,53,54,55] [] (zk (I @zqd @zjP)) rfl (by rw[zqd];rfl)) (Nat.zero_le _) ?_
 intro i hi0 hF K hK
 refine zw ?_
 refine zaa (fun hlt=> ?_) (fun hge=> ?_)
 ·have hi:i<s.sess.length:=by simpa using hlt
  have hat:=zee hi
  have hw:=zal hi (by omega)
  obtain⟨f1,f2,f3⟩:=zct.1 (h.sok _ (List.getElem_mem hi)).1
  simp only[isClient,Bool.and_eq_true,decide_eq_true_eq]at f1
  have wc:IntKind.u8.wrap s.sess[i].client=s.sess[i].client:=zdT (by omega) (by omega)
  have m1:=zfh s.sess[i].num (by omega)
  have m2:=zfh s.sess[i].renewed (by omega)
  have hb:=zoM s i
  have hcc:CallOK Tryz.prog 66 [.f (al 4 [.sl (sb1 s i).length (zad (sb1 s i)), .sl 1 (zad [s.sess[i].client]), .sl 8 (zad (zbs s.sess[i].num)), .sl 8 (zad (zbs s.sess[i].renewed))])] (fun x o=>x=[.one (.own 1 (sb1 s (i+1)).length (zad (sb1 s (i+1))) false)]∧o=[]):=by
   have hc:=zfZ [sb1 s i,[s.sess[i].client],zbs s.sess[i].num,zbs s.sess[i].renewed] (by simp) (fun l hl=>by
    simp only[List.mem_cons,List.not_mem_nil,or_false]at hl
    rcases hl with rfl|rfl|rfl|rfl
    ·omega
    ·simp
    ·rw[zaX];decide
    ·rw[zaX];decide)
   rw[show [sb1 s i,[s.sess[i].client],zbs s.sess[i].num,zbs s.sess[i].renewed].flatten=sb1 s (i+1) from by rw[zvY hi];simp[ziM]]at hc
   exact hc
  refine zL (I hat (I @zaB (I t8 (I t1 (I wc (I @zat zca)))))) (I (m1) (I (m2) (hcc))) ?_
  exact hK _ (i+1) (Gh.canon [1,4] [] [] (zk hw) rfl rfl) hi rfl (by omega)
 ·have hi:i=s.sess.length:=by
   have:¬(i:Int)<s.sess.length:=by simpa using hge
   omega
  subst hi
  clear hK
  have w2:IntKind.u8.wrap (s.locks.length:Int)=s.locks.length:=zdT (by omega) (by omega)
  have hb:=zoM s s.sess.length
  have hle:((sb1 s s.sess.length).length+1≤2^47)=True:=eq_true (by omega)
  refine zL0 (I hle (I t1 (I w2 @zat))) ?_
  refine zai (τ:=Nat) (fun i=>⟨(dd::ptq 1::dq2 (.one (.own ⟨4,1,1⟩ 0 (sb2 s i).length)::zr9 (zez (al s.locks.length (zam s.locks)::ai s.locks.length::ai i::zzo (zez []))))),[(1,⟨2,[obq 1 [di s.time,di s.num,di s.token, .lent s.sess.length (zbC s.sess), .lent s.locks.length (zam s.locks), .lent s.memos.length (zaZ s.memos)],none,none,none,none,none,none]⟩),(22,⟨2,[]⟩),(25,⟨2,[]⟩),(28,⟨2,[]⟩),(33,⟨2,[]⟩),(34,⟨2,[]⟩),(35,⟨2,[]⟩),(4,⟨2,[none,roq 1 1 (zad (sb2 s i))]⟩),(6,⟨2,[]⟩),(47,⟨2,[]⟩),(50,⟨2,[]⟩),(53,⟨2,[]⟩),(54,⟨2,[]⟩),(55,⟨2,[]⟩),(62,⟨2,[]⟩),(8,⟨2,[]⟩),(9,⟨2,[]⟩),(74,⟨2,[]⟩),(82,⟨2,[]⟩),(85,⟨2,[]⟩),(90,⟨2,[]⟩),(91,⟨2,[]⟩),(92,⟨2,[]⟩),(103,⟨2,[]⟩),(104,⟨2,[]⟩)]⟩)
   (fun i=>i≤s.locks.length) (fun _=>()) (fun i=>s.locks.length - i) 0
   (Gh.canon [1,4] [8,9,74,82,85,90,91,92,103,104] [] (zk (I @zqe (I @List.length_append.{0} @List.length_singleton.{0}))) rfl (by rw[zqe];simp only[roq,zad,List.map_append];rfl)) (Nat.zero_le _) ?_
  intro i hi0 hF K hK
  refine zw ?_
  refine zaa (fun hlt=> ?_) (fun hge=> ?_)
  ·have hi:i<s.locks.length:=by simpa using hlt
   have hat:=zbT hi
   have hw:=zal hi (by omega)
   obtain⟨q0,q1,q2,q3,q4,q5⟩:=zgr h (List.getElem_mem hi)
   have wc:IntKind.u8.wrap s.locks[i].holder=s.locks[i].holder:=zdT (by omega) (by omega)
   have wl:IntKind.u8.wrap (s.locks[i].line.length:Int)=s.locks[i].line.length:=zdT (by omega) (by omega)
   have m1:=zid s.locks[i].name (by omega)
   have m2:=zfh s.locks[i].token (by omega)
   have hb:=zoN h i
   have tt:(ziN s.locks[i].name).take (1+s.locks[i].name.size)=ziN s.locks[i].name:=List.take_of_length_le (by rw[zhE];exact Nat.le_refl _)
   have hcc:CallOK Tryz.prog 66 [.f (al 5 [.sl (sb2 s i).length (zad (sb2 s i)), .sl (1+s.locks[i].name.size) (ziN s.locks[i].name), .sl 1 (zad [s.locks[i].holder]), .sl 8 (zad (zbs s.locks[i].token)), .sl 1 (zad [(s.locks[i].line.length:Int)])])] (fun x o=>x=[.one (.own 1 (zmK s i s.locks[i] 0).length (zad (zmK s i s.locks[i] 0)) false)]∧o=[]):=by
    have hc:=zfZ [sb2 s i,zdS s.locks[i].name,[s.locks[i].holder],zbs s.locks[i].token,[(s.locks[i].line.length:Int)]] (by simp) (fun l hl=>by
     simp only[List.mem_cons,List.not_mem_nil,or_false]at hl
     rcases hl with rfl|rfl|rfl|rfl|rfl
     ·omega
     ·rw[zce];omega
     ·simp
     ·rw[zaX];decide
     ·simp)
    rw[show [sb2 s i,zdS s.locks[i].name,[s.locks[i].holder],zbs s.locks[i].token,[(s.locks[i].line.length:Int)]].flatten=zmK s i s.locks[i] 0 from by rw[zth];simp[lk0]]at hc
    rw[←zce,zoQ]
    exact hc
   refine zL (I hat (I @zah (I t8 (I t1 (I wc (I wl (I tt (I @zat zca)))))))) (I (m1) (I (m2) (hcc))) ?_
   refine zai (τ:=Nat) (fun j=>⟨(dd::ptq 1::dq2 (.one (.own ⟨4,1,1⟩ 0 (zmK s i s.locks[i] j).length)::zr9 (zez (al s.locks.length (zam s.locks)::ai s.locks.length::ai i::zxW (asl s.locks[i].line.length (zaQ s.locks[i].line)::ai s.locks[i].line.length::ai j::zez []))))),[(1,⟨2,[obq 1 [di s.time,di s.num,di s.token, .lent s.sess.length (zbC s.sess), .lent s.locks.length (zam s.locks), .lent s.memos.length (zaZ s.memos)],none,none,none,none,none,none]⟩),(22,⟨2,[]⟩),(25,⟨2,[]⟩),(28,⟨2,[]⟩),(33,⟨2,[]⟩),(34,⟨2,[]⟩),(35,⟨2,[]⟩),(4,⟨2,[none,roq 1 1 (zad (zmK s i s.locks[i] j))]⟩),(6,⟨2,[]⟩),(47,⟨2,[]⟩),(50,⟨2,[]⟩),(53,⟨2,[]⟩),(54,⟨2,[]⟩),(55,⟨2,[]⟩),(62,⟨2,[]⟩),(8,⟨2,[]⟩),(9,⟨2,[]⟩),(74,⟨2,[]⟩),(82,⟨2,[]⟩),(85,⟨2,[]⟩),(90,⟨2,[]⟩),(91,⟨2,[]⟩),(92,⟨2,[]⟩),(103,⟨2,[]⟩),(104,⟨2,[]⟩)]⟩)
    (fun j=>j≤s.locks[i].line.length) (fun _=>()) (fun j=>s.locks[i].line.length - j) 0
    (Gh.canon [1,4] [] [] zK rfl rfl) (Nat.zero_le _) ?_
   intro j hj0 hF2 K2 hK2
   refine zw ?_
   refine zaa (fun hlt2=> ?_) (fun hge2=> ?_)
   ·have hj:j<s.locks[i].line.length:=by simpa using hlt2
    have hat2:=zdA hj
    have hw2:=zal hj (by omega)
    have q6:=q5 _ (List.getElem_mem hj)
    have wd:IntKind.u8.wrap s.locks[i].line[j]=s.locks[i].line[j]:=zdT (by omega) (by omega)
    have hlj:(zmK s i s.locks[i] j).length≤300:=by
     rw[zmK,List.length_append,List.length_append,zoL,List.length_take];omega
    have hle3:((zmK s i s.locks[i] j).length+1≤2^47)=True:=eq_true (by omega)
    have hsl3:(zmK s i s.locks[i] (j+1)).length=(zmK s i s.locks[i] j).length+1:=by rw[znI hj,List.length_append,List.length_singleton]
    refine zL0 (I hat2 (I @zaO (I t1 (I wd (I hle3 (I @zat zca)))))) ?_
    exact hK2 _ (j+1) (Gh.canon [1,4] [] [] (zk (I hw2 hsl3)) rfl (by rw[znI hj];simp only[roq,zad,List.map_append];rfl)) hj rfl (by omega)
   ·have hj:j=s.locks[i].line.length:=by
     have:¬(j:Int)<s.locks[i].line.length:=by simpa using hge2
     omega
    subst hj
    refine zL0 trivial ?_
    exact hK _ (i+1) (Gh.canon [1,4] [] [] (by simp only[hw,zqg hi,ddE,zhe,zmV,zhf,zjl,zjm,zjn,List.set_cons_zero,List.set_cons_succ,and_true,true_and,Int.natCast_zero,Int.cast_ofNat_Int,D.v.injEq,Value.int.injEq];try(repeat'(first|rfl|omega|with_reducible apply And.intro))) rfl (by rw[zqg hi];rfl)) hi rfl (by omega)
  ·have hi:i=s.locks.length:=by
    have:¬(i:Int)<s.locks.length:=by simpa using hge
    omega
   subst hi
   clear hK
   have hml:=zhB h
   have w3:IntKind.u8.wrap (s.memos.length:Int)=s.memos.length:=zdT (by omega) (by omega)
   have hb2:=zoN h s.locks.length
   have hle2:((sb2 s s.locks.length).length+1≤2^47)=True:=eq_true (by omega)
   refine zL0 (I hle2 (I t1 (I w3 @zat))) ?_
   refine zai (τ:=Nat) (fun i=>⟨(dq4 (.one (.own ⟨4,1,1⟩ 0 (sb3 s i).length)::zxX (zez (zez (al s.memos.length (zaZ s.memos)::ai s.memos.length::ai i::zzn []))))),[(1,⟨2,[]⟩),(22,⟨2,[]⟩),(25,⟨2,[]⟩),(28,⟨2,[]⟩),(33,⟨2,[]⟩),(34,⟨2,[]⟩),(35,⟨2,[]⟩),(4,⟨2,[none,roq 1 1 (zad (sb3 s i))]⟩),(6,⟨2,[]⟩),(47,⟨2,[]⟩),(50,⟨2,[]⟩),(53,⟨2,[]⟩),(54,⟨2,[]⟩),(55,⟨2,[]⟩),(62,⟨2,[]⟩),(8,⟨2,[]⟩),(9,⟨2,[]⟩),(74,⟨2,[]⟩),(82,⟨2,[]⟩),(85,⟨2,[]⟩),(90,⟨2,[]⟩),(91,⟨2,[]⟩),(92,⟨2,[]⟩),(103,⟨2,[]⟩),(104,⟨2,[]⟩),(112,⟨2,[]⟩),(14,⟨2,[]⟩),(15,⟨2,[]⟩),(129,⟨2,[]⟩),(134,⟨2,[]⟩)]⟩)
    (fun i=>i≤s.memos.length) (fun _=>()) (fun i=>s.memos.length - i) 0
    (Gh.canon [4] [14,15,129,134] [] (zk (I @zqf (I @List.length_append.{0} @List.length_singleton.{0}))) rfl (by rw[zqf];simp only[roq,zad,List.map_append];rfl)) (Nat.zero_le _) ?_
   intro i hi0 hF K hK
   refine zw ?_
   refine zaa (fun hlt=> ?_) (fun hge=> ?_)
   ·have hi:i<s.memos.length:=by simpa using hlt
    have hat:=zfc hi
    have hw:=zal hi (by omega)
    have hma:=h.mok _ (List.getElem_mem hi)
    have hpa:=ziy s.memos[i] hma
    have hb3:=zoO h i
    have hal:=zgT hma
    have hle3:((sb3 s i).length+(zba s.memos[i]).length≤2^47)=True:=eq_true (by omega)
    have hsl3:(sb3 s (i+1)).length=(sb3 s i).length+(zba s.memos[i]).length:=by rw[zqc hi,List.length_append]
    refine zL (I hat (I @zaC (I @zat (I hle3 (I @za6 zca))))) (hpa) ?_
    exact hK _ (i+1) (Gh.canon [4] [] [] (zk (I hw hsl3)) rfl (by rw[zqc hi];simp only[roq,zad,List.map_append];rfl)) hi rfl (by omega)
   ·have hi:i=s.memos.length:=by
     have:¬(i:Int)<s.memos.length:=by simpa using hge
     omega
    subst hi
    refine zL0 trivial ?_
    rfl
theorem zeI (l:List Int) (hl:l.length<2^62) (p:Int→Bool) (f:Nat) (caps:List C) (hc:lendAs [] (caps.map AV.one)=some (caps.map fun c=> .f (.one c))) (hc2:lendC.lendCs [] caps=some caps)
  (hp:∀x∈l,CallOK Tryz.prog f (.f (zAp x)::caps.map fun c=> .f (.one c)) (fun r o=>r=[rb (p x)]∧o=[])):
  CallOK Tryz.prog 115 [.f (al l.length (zaQ l)), .f (.one (.clos f caps))] (fun r o=>r=[rb (l.any p)]∧o=[]):=by
 refine zh Tryz.func115 Tryz.results115 Tryz.ntmps115 Tryz.call115 ?_
 simp only[Tryz.f115,Option.getD]
 refine zw1 hc2 ?_
 refine za9 (ztU l hl p f caps hc hp) ?_
 refine zw ?_
 rw[zmp]
abbrev zAx:Req→AV:=fun x=> .agg (x.enc.map C.d)
theorem zum (l:List Req) (hl:l.length<2^62) (p:Req→Bool) (f:Nat) (caps:List C) (hc:lendAs [] (caps.map AV.one)=some (caps.map fun c=> .f (.one c)))
  (hp:∀x∈l,CallOK Tryz.prog f (.f (zAx x)::caps.map fun c=> .f (.one c)) (fun r o=>r=[rb (p x)]∧o=[])):
  CallOK Tryz.prog 118 [.f (al l.length (zbS l)), .f (.one (.clos f caps))] (fun r o=>r=[ri (zev p l 0)]∧o=[]):=by
 refine zh Tryz.func118 Tryz.results118 Tryz.ntmps118 Tryz.call118 ?_
 simp only[Tryz.f118,Option.getD]
 refine zw ?_
 refine zai (τ:=Nat) (fun i=>⟨(al l.length (zbS l):: .one (.clos f caps)::dq2 (ai 0::dd::al l.length (zbS l)::ai l.length::ai i::zr8 [])),[]⟩) (fun i=>i≤l.length) (fun i=>zev p (l.drop i) i) (fun i=>l.length - i) 0 (Gh.fgt ?_) (Nat.zero_le _) ?_
 ·simp only[ddE,zcU,zcV,zdQ,Int.natCast_zero]
 intro i hi0 hF K hK
 refine zw ?_
 rw[ze4]
 refine⟨trivial,fun hlt=> ?_,fun hge=> ?_⟩
 ·have hi:i<l.length:=by simpa using hlt
  rw[List.drop_eq_getElem_cons hi,zev]at hF
  have hat:=zfC hi
  simp only[List.cons_append,List.nil_append]at hat
  refine zw1 (I @zaP (I hat hc)) ?_
  refine⟨⟨Int.natCast_nonneg i,by omega⟩, ?_⟩
  refine za9 (hp _ (List.getElem_mem hi)) ?_
  refine zw ?_
  refine zaa (fun hb=> ?_) (fun hb=> ?_)
  ·rw[if_pos hb]at hF
   refine zw ?_
   rw[hF];rfl
  ·rw[if_neg (by simp[hb])]at hF
   refine zw ?_
   refine hK _ (i+1) (Gh.fgt ?_) hi (by simp only[List.drop_eq_getElem_cons hi,zev];rw[if_neg (by simp[hb])];rfl) (by omega)
   have hw:IntKind.i64.wrap ((i:Int)+1)=((i+1:Nat):Int):=by rw[wrap64 (by omega) (by omega)];rfl
   simp only[hw,ddE,zcU,zcV,zdQ]
 ·have hi:i=l.length:=by
   have:¬(i:Int)<l.length:=by simpa using hge
   omega
  rw[hi,List.drop_length,zev]at hF
  refine zw ?_
  rw[hF];rfl
theorem zn6 (l:List Req) (hl:l.length<2^62) (p:Req→Bool) (f:Nat) (caps:List C) (hc:lendAs [] (caps.map AV.one)=some (caps.map fun c=> .f (.one c))) (hc2:lendC.lendCs [] caps=some caps)
  (hp:∀x∈l,CallOK Tryz.prog f (.f (zAx x)::caps.map fun c=> .f (.one c)) (fun r o=>r=[rb (p x)]∧o=[])):
  CallOK Tryz.prog 77 [.f (al l.length (zbS l)), .f (.one (.clos f caps))] (fun r o=>r=[rb (l.any p)]∧o=[]):=by
 refine zh Tryz.func77 Tryz.results77 Tryz.ntmps77 Tryz.call77 ?_
 simp only[Tryz.f77,Option.getD]
 refine zw1 hc2 ?_
 refine za9 (zum l hl p f caps hc hp) ?_
 refine zw ?_
 rw[zmp]
def bad (n:Int):Bool:=decide (n<0)||decide (n>zbx)
def inH (n:Int):Bool:=decide (n≥0)&&decide (n≤zbx)
theorem zlG (n:Int):CallOK Tryz.prog 117 [.f (ai n)] (fun r o=>r=[rb (bad n)]∧o=[]):=by
 refine zh Tryz.func117 Tryz.results117 Tryz.ntmps117 Tryz.call117 ?_
 simp only[Tryz.f117,Option.getD]
 refine zA9 trivial ?_
 rfl
theorem zlH (l:List Int) (hl:l.length<2^62):CallOK Tryz.prog 76 [.f (al l.length (zaQ l))] (fun r o=>r=[rb (!l.any bad)]∧o=[]):=by
 refine zh Tryz.func76 Tryz.results76 Tryz.ntmps76 Tryz.call76 ?_
 simp only[Tryz.f76,Option.getD]
 repeat'(first|exact zC|refine za0 ?_|((first|((try refine zaT ?_);apply za9)|(apply za7;intro _));(solve|exact(zeI l hl bad _ [] rfl rfl (fun x _=>zlG x))|(refine CallOK.le (zeI l hl bad _ [] rfl rfl (fun x _=>zlG x)) ?_;exact zM)|fail);try case hn=>rfl)|(apply zaa<;>intro hb)|(apply I;exact zI)|(apply I<;>intro hg))
def Tip.may (t:Tip):Bool:=inH t.view&&inH t.slot
theorem zmB (r q:Req):CallOK Tryz.prog 78 [.f (.agg (r.enc.map C.d)), .f (.one (.elt q.enc))] (fun x o=>x=[rb (r.client==q.client)]∧o=[]):=by
 refine zh Tryz.func78 Tryz.results78 Tryz.ntmps78 Tryz.call78 ?_
 simp only[Tryz.f78,Option.getD]
 exact zDR trivial
theorem zun {l:List Req} {i:Nat} (hi:i≤l.length):(zbS l).take (i*5)=zbS (l.take i):=by
 have h:zbS l=zbS (l.take i)++zbS (l.drop i):=by rw[←List.flatMap_append,List.take_append_drop]
 rw[h,List.take_left' (by rw[zaP,List.length_take];congr 1;omega)]
def zdy (l:List Req):Nat→List Req→Bool
 |_,[]=>true
 |i,r::rest=>if(!Req.may r||(l.take i).any (fun o=>o.client==r.client))=true then false else zdy l (i+1) rest
def Batch.may (b:Batch):Bool:=
 if b.fill=true then b.view==0&&b.time==0&&(b.tip.view==0&&b.tip.slot==0)&&(b.reqs.length:Int)==0
 else if(!![b.view,b.time,b.tip.view,b.tip.slot].any bad||decide ((b.reqs.length:Int)>3))=true then false else zdy b.reqs 0 b.reqs
theorem zdz (b:Batch) (hok:b.ok):CallOK Tryz.prog 38 [.f (.agg b.lent)] (fun r o=>r=[rb (Batch.may b)]∧o=[]):=by
 have hlen:b.reqs.length<2^42:=hok.2.2.2.2.1
 have hreq:∀r∈b.reqs,r.ok:=hok.2.2.2.2.2
 refine zh Tryz.func38 Tryz.results38 Tryz.ntmps38 Tryz.call38 ?_
 simp only[Tryz.f38,Option.getD]
 repeat'(first|exact zC|refine za0 ?_|((first|((try refine zaT ?_);apply za9)|(apply za7;intro _));(solve|exact(zlH [_,_,_,_] (by simp))|(refine CallOK.le (zlH [_,_,_,_] (by simp)) ?_;exact zM)|fail);try case hn=>rfl)|(apply zaa<;>intro hb)|(apply I;exact zI)|(apply I<;>intro hg))
 ·rw[Batch.may,if_pos (by assumption)]
 ·rw[Batch.may,if_neg (by simp_all),if_pos (by assumption)]
 rename_i hf
 have hm:Batch.may b=zdy b.reqs 0 b.reqs:=by rw[Batch.may,if_neg (by simp[hf]),if_neg (by rw[hb];simp)]
 rw[hm]
 refine zw ?_
 refine zai (τ:=Nat×Nat) (fun t=>⟨(dd:: .one (.ptr ⟨1,0,0⟩ 0)::ab false::dq4 (zez (al b.reqs.length (zbS b.reqs)::ai b.reqs.length::ai t.1::zAF []))),
  [(1,{next:=7,l:=[obq 0 [db b.fill,di b.view,di b.tip.view,di b.tip.slot,di b.time, .lent b.reqs.length (zbS b.reqs)],none,none,none,none,none,none]}),(37,⟨1,[]⟩),(4,⟨t.2,[]⟩)]⟩)
  (fun t=>t.1≤b.reqs.length) (fun t=>zdy b.reqs t.1 (b.reqs.drop t.1)) (fun t=>b.reqs.length - t.1) (0,0) (Gh.keep [1] [4] ?_ rfl) (Nat.zero_le _) ?_
 ·simp only[ddE,zcU,zcV,zdQ,Int.natCast_zero]
 intro⟨i,e⟩ hi0 hF K hK
 simp only at hi0 hF hK⊢
 refine zw ?_
 rw[ze4]
 refine⟨trivial,fun hlt=> ?_,fun hge=> ?_⟩
 ·have hi:i<b.reqs.length:=by simpa using hlt
  rw[List.drop_eq_getElem_cons hi,zdy]at hF
  have hat:=zfC hi
  simp only[List.cons_append,List.nil_append]at hat
  have hro:=hreq _ (List.getElem_mem hi)
  have hlt':(b.reqs.take i).length=i:=by rw[List.length_take];omega
  have hc:=zn6 (b.reqs.take i) (by omega) (fun o=>o.client==b.reqs[i].client) 78 [.elt b.reqs[i].enc] rfl rfl (fun x _=>zmB x _)
  rw[hlt',←zun hi0]at hc
  repeat'(first|exact zC|refine za (I @zaP (I hat (I @Int.toNat_zero (I @Int.toNat_natCast (I @Nat.sub_zero @Int.natCast_zero))))) ?_|((first|((try refine zaT ?_);apply za9)|(apply za7;intro _));(solve|exact(zf4 _ hro)|(refine CallOK.le (zf4 _ hro) ?_;exact zM)|fail);try case hn=>rfl)|refine zx (hc) ?_|(apply zaa<;>intro hb)|(apply I;exact zI)|(apply I<;>intro hg))
  ·rw[if_pos hb,List.drop_zero]at hF
   rw[←hF]
  ·rw[if_neg (by rw[hb];simp)]at hF
   refine hK _ (i+1,_) (Gh.keep [1] [] ?_ rfl) hi (by simp only[List.drop_eq_getElem_cons hi,zdy];rw[if_neg (by rw[hb];simp)]) (by simp only;omega)
   simp only[zal hi (by omega),ddE,zcU,zcV,zdQ]
 ·have hi:i=b.reqs.length:=by
   have:¬(i:Int)<b.reqs.length:=by simpa using hge
   omega
  rw[hi,List.drop_length,List.drop_zero,zdy]at hF
  refine zw ?_
  rw[←hF]
def zn4 (k n:Int) (s:ByteArray):List Int:=[k]++(zbs n++zdS s)
def zik (r:Req):List Int:=[r.client]++(zbs r.seq++zn4 r.kind r.session r.name)
theorem zdx {k n:Int} {s:ByteArray} (h:zlz k n s=true):1≤k∧k≤6∧0≤n∧n≤2305843009213693952∧s.size≤12:=by
 unfold zlz at h
 split at h
 ·cases h
 ·rename_i h1
  split at h
  ·cases h
  ·rename_i h2
   have hk:1≤k∧k≤6:=by simp at h1;omega
   have hn:0≤n∧n≤2305843009213693952:=by
    split at h
    ·simp at h;omega
    ·simp at h;omega
   refine⟨hk.1,hk.2,hn.1,hn.2, ?_⟩
   cases hc:(k==3||k==4||k==5)
   ·simp only[hc,Bool.false_and,Bool.false_or,Bool.not_false,Bool.true_and]at h2
    have:s.toList=(⟨#[]⟩:ByteArray).toList:=by simpa only[Bool.not_eq_true,Bool.not_eq_false',beq_iff_eq]using h2
    have:s.size=0:=by
     have:=congrArg List.length this
     rw[zcx,zcx,Array.length_toList]at this
     exact this
    omega
   ·simp only[hc,Bool.true_and,Bool.not_true,Bool.false_and,Bool.or_false]at h2
    have hn:nameP s=true:=by simpa using h2
    unfold nameP at hn
    simp only[Bool.and_eq_true,decide_eq_true_eq]at hn
    omega
theorem zmz (k n:Int) (s:ByteArray):(zn4 k n s).length=10+s.size:=by simp[zn4,zaX,zce];omega
theorem t8 (v:Int):(zad (zbs v)).take 8=zad (zbs v):=List.take_of_length_le (by rw[zeC];decide)
theorem zul (k n:Int) (s:ByteArray) (h:zlz k n s=true):CallOK Tryz.prog 65 [.f (.agg [di k,di n,dS s])] (fun r o=>r=[.one (.own 1 (zn4 k n s).length (zad (zn4 k n s)) false),ri 0]∧o=[]):=by
 refine zh Tryz.func65 Tryz.results65 Tryz.ntmps65 Tryz.call65 ?_
 simp only[Tryz.f65,Option.getD]
 obtain⟨f1,f2,f3,f4,f5⟩:=zdx h
 have hmy:=zqq k n s (by omega)
 rw[h]at hmy
 have hpb:=zlu k (by omega)
 have hpn:=zdH n (by omega)
 have hpt:=zid s (by omega)
 rw[zoQ]at hpt
 have hcc:CallOK Tryz.prog 66 [.f (al 3 [.sl 1 (zad [k]), .sl 8 (zad (zbs n)), .sl (1+s.size) (zad (zdS s))])] (fun r o=>r=[.one (.own 1 (zn4 k n s).length (zad (zn4 k n s)) false)]∧o=[]):=by
  have hc:=zfZ [[k],zbs n,zdS s] (by simp) (fun l hl=>by
   simp only[List.mem_cons,List.not_mem_nil,or_false]at hl
   rcases hl with rfl|rfl|rfl
   ·simp
   ·rw[zaX];decide
   ·rw[zce];omega)
  rw[show [[k],zbs n,zdS s].flatten=zn4 k n s from by simp[zn4]]at hc
  rw[←zce s]
  exact hc
 have t2:(zad (zdS s)).take (1+s.size)=zad (zdS s):=by rw[←zce s];exact zat
 exact zW (I t8 t2) (I (hmy) (I (hpb) (I (hpn) (I (hpt) (hcc)))))
theorem zes {r:Req} (h:Req.may r=true):(0≤r.client∧r.client<8)∧(1≤r.seq∧r.seq≤2305843009213693952)∧zlz r.kind r.session r.name=true∧r.ok:=by
 unfold Req.may at h
 have hH:zbx=2305843009213693952:=rfl
 simp only[Bool.and_eq_true,decide_eq_true_eq]at h
 have f:=zdx h.2
 refine⟨⟨h.1.1.1.1,h.1.1.1.2⟩,⟨h.1.1.2,by omega⟩,h.2, ?_⟩
 unfold Req.ok i64
 omega
theorem zmA {r:Req} (h:Req.may r=true):(zik r).length=19+r.name.size∧r.name.size≤12:=by
 have f:=zdx (zes h).2.2.1
 refine⟨?_,f.2.2.2.2⟩
 simp[zik,zaX,zmz];omega
theorem zn5 (r:Req) (h:Req.may r=true):CallOK Tryz.prog 22 [.f (.agg (r.enc.map C.d))] (fun x o=>x=[.one (.own 1 (zik r).length (zad (zik r)) false),ri 0]∧o=[]):=by
 refine zh Tryz.func22 Tryz.results22 Tryz.ntmps22 Tryz.call22 ?_
 simp only[Tryz.f22,Option.getD]
 obtain⟨e1,e2,e3,e4⟩:=zes h
 have hmy:=zf4 r e4
 rw[h]at hmy
 have f:=zdx e3
 have hpb:=zlu r.client (by omega)
 have hpn:=zdH r.seq (by omega)
 have hpt:=zul r.kind r.session r.name e3
 have hcc:CallOK Tryz.prog 66 [.f (al 3 [.sl 1 (zad [r.client]), .sl 8 (zad (zbs r.seq)), .sl (zn4 r.kind r.session r.name).length (zad (zn4 r.kind r.session r.name))])] (fun x o=>x=[.one (.own 1 (zik r).length (zad (zik r)) false)]∧o=[]):=by
  have hc:=zfZ [[r.client],zbs r.seq,zn4 r.kind r.session r.name] (by simp) (fun l hl=>by
   simp only[List.mem_cons,List.not_mem_nil,or_false]at hl
   rcases hl with rfl|rfl|rfl
   ·simp
   ·rw[zaX];decide
   ·rw[zmz];omega)
  rw[show [[r.client],zbs r.seq,zn4 r.kind r.session r.name].flatten=zik r from by simp[zik]]at hc
  exact hc
 exact zW (I t8 @zat) (I (hmy) (I (hpb) (I (hpn) (I (hpt) (hcc)))))
def zaH (l:List Int):List Int:=l.flatMap zbs
theorem zbu {l:List Int}:(zaH l).length=8*l.length:=by
 induction l with
 |nil=>rfl
 |cons x l ih=>simp only[zaH,List.flatMap_cons,List.length_append,List.length_cons,zaX]at ih⊢;omega
theorem zil {l:List Int} {i:Nat} (hi:i<l.length):zaH (l.take (i+1))=zaH (l.take i)++zbs l[i]:=zc5 _ hi
theorem zf6 (l:List Int) (hl:l.length≤10) (h:∀v∈l,0≤v∧v<4611686018427387904):CallOK Tryz.prog 24 [.f (al l.length (zaQ l))] (fun r o=>r=[.one (.own 1 (zaH l).length (zad (zaH l)) false)]∧o=[]):=by
 refine zh Tryz.func24 Tryz.results24 Tryz.ntmps24 Tryz.call24 ?_
 simp only[Tryz.f24,Option.getD]
 refine zL0 trivial ?_
 refine zai (τ:=Nat) (fun i=>⟨(dq3 (.one (.own ⟨3,1,1⟩ 0 (zaH (l.take i)).length)::dq4 (al l.length (zaQ l)::ai l.length::ai i::zuO []))),[(3,⟨2,[none,roq 1 1 (zad (zaH (l.take i)))]⟩),(6,⟨2,[]⟩),(16,⟨2,[]⟩),(21,⟨2,[]⟩)]⟩)
  (fun i=>i≤l.length) (fun _=>()) (fun i=>l.length - i) 0
  ((Gh.nil (i:=3) (s:=3) (sz:=1) rfl).trans (Gh.canon [3] [6,16,21] [] zK rfl rfl)) (Nat.zero_le _) ?_
 intro i hi0 hF K hK
 refine zw ?_
 refine zaa (fun hlt=> ?_) (fun hge=> ?_)
 ·have hi:i<l.length:=by simpa using hlt
  have hat:=zdA hi
  have hw:=zal hi (by omega)
  have hpn:=zdH l[i] (h _ (List.getElem_mem hi))
  have hle0:(zaH (l.take i)).length≤80:=by rw[zbu,List.length_take];omega
  have hle:((zaH (l.take i)).length+8≤2^47)=True:=eq_true (by omega)
  have hsl:(zaH (l.take (i+1))).length=(zaH (l.take i)).length+8:=by rw[zil hi,List.length_append,zaX]
  refine zL (I hat (I @zaO (I hle (I t8 (I @zat (I @List.length_map.{0,0} (I @zaX zca))))))) (hpn) ?_
  exact hK _ (i+1) (Gh.canon [3] [] [] (zk (I hw hsl)) rfl (by rw[zil hi];simp only[roq,zad,List.map_append];rfl)) hi rfl (by omega)
 ·have hi:i=l.length:=by
   have:¬(i:Int)<l.length:=by simpa using hge
   omega
  subst hi
  rw[List.take_length]
  exact zW0 trivial
theorem zpa {l:List Req}:∀{i:Nat},i≤l.length→(zdy l i (l.drop i)=true↔∀j (hj:j<l.length),i≤j→Req.may l[j]=true∧∀k (hk:k<j),l[k].client≠l[j].client):=by
 intro i hi
 obtain⟨n,hn⟩:∃n,n=l.length - i:=⟨_,rfl⟩
 induction n generalizing i with
 |zero=>
  have:i=l.length:=by omega
  rw[this,List.drop_length,zdy]
  simp only[true_iff]
  intro j hj hij;omega
 |succ n ih=>
  have hil:i<l.length:=by omega
  rw[List.drop_eq_getElem_cons hil,zdy]
  have ih:=ih (i:=i+1) (by omega) (by omega)
  have hany:(l.take i).any (fun o=>o.client==l[i].client)=false↔∀k (hk:k<i),l[k].client≠l[i].client:=by
   rw[List.any_eq_false]
   constructor
   ·intro h k hk
    have:=h (l[k]) (by rw[List.mem_take_iff_getElem];exact⟨k,by omega,rfl⟩)
    simpa using this
   ·intro h o ho
    obtain⟨k,hk,rfl⟩:=List.mem_take_iff_getElem.1 ho
    simpa using h k (by omega)
  constructor
  ·intro h
   split at h
   ·cases h
   ·rename_i hc
    have hc:(!Req.may l[i]||(l.take i).any (fun o=>o.client==l[i].client))=false:=by simpa using hc
    rw[Bool.or_eq_false_iff]at hc
    intro j hj hij
    by_cases hji:j=i
    ·subst hji
     exact⟨by simpa using hc.1,hany.1 hc.2⟩
    ·exact ih.1 h j hj (by omega)
  ·intro h
   obtain⟨h1,h2⟩:=h i hil (Nat.le_refl _)
   rw[if_neg (by rw[h1,hany.2 h2];simp)]
   exact ih.2 fun j hj hij=>h j hj (by omega)
theorem zpb {l:List Req} (h:zdy l 0 l=true):(∀r∈l,Req.may r=true)∧l.Pairwise fun a b=>a.client≠b.client:=by
 have h:=(zpa (l:=l) (i:=0) (Nat.zero_le _)).1 (by rw[List.drop_zero];exact h)
 refine⟨fun r hr=> ?_,List.pairwise_iff_getElem.2 fun i j hi hj hij=>(h j hj (Nat.zero_le _)).2 i hij⟩
 obtain⟨j,hj,rfl⟩:=List.getElem_of_mem hr
 exact(h j hj (Nat.zero_le _)).1
theorem zkg {b:Batch} (h:Batch.may b=true) (hf:b.fill=false):(0≤b.view∧b.view≤zbx)∧(0≤b.time∧b.time≤zbx)∧(0≤b.tip.view∧b.tip.view≤zbx)∧(0≤b.tip.slot∧b.tip.slot≤zbx)∧b.reqs.length≤3∧
  (∀r∈b.reqs,Req.may r=true)∧b.reqs.Pairwise fun a b=>a.client≠b.client:=by
 unfold Batch.may at h
 rw[if_neg (by rw[hf];simp)]at h
 split at h
 ·cases h
 ·rename_i hc
  have hc:(!![b.view,b.time,b.tip.view,b.tip.slot].any bad||decide ((b.reqs.length:Int)>3))=false:=by simpa using hc
  rw[Bool.or_eq_false_iff]at hc
  obtain⟨c1,c2⟩:=hc
  have hb:∀n:Int,bad n=false→0≤n∧n≤zbx:=fun n hn=>by unfold bad at hn;simp at hn;omega
  have c1:[b.view,b.time,b.tip.view,b.tip.slot].any bad=false:=by simpa using c1
  simp only[List.any_cons,List.any_nil,Bool.or_false,Bool.or_eq_false_iff]at c1
  obtain⟨q1,q2,q3,q4⟩:=c1
  obtain⟨g1,g2⟩:=zpb h
  exact⟨hb _ q1,hb _ q2,hb _ q3,hb _ q4,by simp at c2;omega,g1,g2⟩
abbrev zfw (b:Batch):List Int:=[b.view,b.tip.view,b.tip.slot,b.time]
def bp0 (b:Batch) (i:Nat):List Int:=[0]++zaH ((zfw b).take i)
def bp1 (b:Batch) (i:Nat):List Int:=(bp0 b 4++[(b.reqs.length:Int)])++(b.reqs.take i).flatMap zik
def zeH (b:Batch):List Int:=if b.fill=true then [1]else bp1 b b.reqs.length
theorem zmy (b:Batch) {i:Nat} (hi:i≤4):(bp0 b i).length=1+8*i:=by
 rw[bp0,List.length_append,zbu,List.length_take];simp;omega
theorem zws (b:Batch) {i:Nat} (hi:i<(zfw b).length):bp0 b (i+1)=bp0 b i++zbs (zfw b)[i]:=by
 rw[bp0,zil hi,bp0,List.append_assoc]
theorem zqx {b:Batch} {i:Nat} (hi:i<b.reqs.length):bp1 b (i+1)=bp1 b i++zik b.reqs[i]:=by
 rw[bp1,zc5 _ hi,bp1,←List.append_assoc]
theorem zqy {b:Batch}:bp1 b 0=bp0 b 4++[(b.reqs.length:Int)]:=by simp[bp1]
theorem zuk {b:Batch} (h:∀r∈b.reqs,Req.may r=true) (i:Nat):(bp1 b i).length≤34+i*31:=by
 have:=zd7 zik (l:=b.reqs.take i) (k:=31) fun r hr=>by
  have:=zmA (h r (List.mem_of_mem_take hr));omega
 have h2:(b.reqs.take i).length*31≤i*31:=Nat.mul_le_mul_right _ (by rw[List.length_take];omega)
 rw[bp1,List.length_append,List.length_append,zmy b (by omega)]
 simp only[List.length_singleton]
 omega
theorem zer {b:Batch} (h:Batch.may b=true):b.reqs.length≤3∧∀r∈b.reqs,Req.may r=true:=by
 cases hf:b.fill
 ·have f:=zkg h hf
  exact⟨f.2.2.2.2.1,f.2.2.2.2.2.1⟩
 ·unfold Batch.may at h
  rw[if_pos hf]at h
  simp only[Bool.and_eq_true,beq_iff_eq]at h
  have:b.reqs=[]:=List.length_eq_zero_iff.1 (by omega)
  rw[this]
  exact⟨by simp,by simp⟩
theorem zke {b:Batch} (h:Batch.may b=true):∀v∈zfw b,0≤v∧v≤2305843009213693952:=by
 have hH:zbx=2305843009213693952:=rfl
 intro v hv
 cases hf:b.fill
 ·obtain⟨a1,a2,a3,a4,_⟩:=zkg h hf
  simp only[zfw,List.mem_cons,List.not_mem_nil,or_false]at hv
  rcases hv with rfl|rfl|rfl|rfl<;>omega
 ·unfold Batch.may at h
  rw[if_pos hf]at h
  simp only[Bool.and_eq_true,beq_iff_eq]at h
  simp only[zfw,List.mem_cons,List.not_mem_nil,or_false]at hv
  rcases hv with rfl|rfl|rfl|rfl<;>omega
theorem zqz {b:Batch} (h:Batch.may b=true):b.ok:=by
 obtain⟨h1,h2⟩:=zer h
 have hn:=zke h
 have n1:=hn b.view (by simp)
 have n2:=hn b.tip.view (by simp)
 have n3:=hn b.tip.slot (by simp)
 have n4:=hn b.time (by simp)
 unfold Batch.ok i64
 refine⟨by omega,by omega,by omega,by omega,by omega,fun r hr=>(zes (h2 r hr)).2.2.2⟩
set_option maxHeartbeats 1000000 in
theorem zkf (b:Batch) (h:Batch.may b=true):CallOK Tryz.prog 26 [.f (.agg b.lent)] (fun x o=>x=[.one (.own 1 (zeH b).length (zad (zeH b)) false),ri 0]∧o=[]):=by
 refine zh Tryz.func26 Tryz.results26 Tryz.ntmps26 Tryz.call26 ?_
 simp only[Tryz.f26,Option.getD]
 have hmy:=zdz b (zqz h)
 rw[h]at hmy
 obtain⟨h1,h2⟩:=zer h
 have hn:=zke h
 cases hf:b.fill
 ·rw[zeH,if_neg (by rw[hf];simp)]
  rw[show b.lent=[db false,di b.view,di b.tip.view,di b.tip.slot,di b.time, .lent b.reqs.length (zbS b.reqs)] from by rw[←hf]]at hmy
  have hagg:∀(Z:List Nat) (r:Rs) (xs ys:List AV),fgc Z r (AV.agg [di b.view,di b.tip.view,di b.tip.slot,di b.time]::xs) (AV.agg [di b.view,di b.tip.view,di b.tip.slot,di b.time]::ys)=fgc Z r xs ys:=fun Z r xs ys=>ziV rfl rfl
  refine zL hf (hmy) ?_
  refine zai (τ:=Nat) (fun i=>⟨(dd::ptq 1::dq2 (.one (.own ⟨4,1,1⟩ 0 (bp0 b i).length)::zzO (.agg [di b.view,di b.tip.view,di b.tip.slot,di b.time]::ai i::zxY []))),[(1,⟨2,[obq 1 [db false,di b.view,di b.tip.view,di b.tip.slot,di b.time, .lent b.reqs.length (zbS b.reqs)],none,none,none,none,none,none]⟩),(19,⟨2,[]⟩),(4,⟨2,[none,roq 1 1 (zad (bp0 b i))]⟩),(7,⟨2,[]⟩),(36,⟨2,[]⟩),(41,⟨2,[]⟩)]⟩)
   (fun i=>i≤4) (fun _=>()) (fun i=>4 - i) 0
   (Gh.canon [1,4] [7,36,41] [] (zk hagg) rfl rfl) (Nat.zero_le _) ?_
  intro i hi0 hF K hK
  refine zw ?_
  refine zaa (fun hlt=> ?_) (fun hge=> ?_)
  ·have hi:i<4:=by simp at hlt;omega
   have hw:IntKind.i64.wrap ((i:Int)+1)=((i+1:Nat):Int):=zal hi (by omega)
   have hpn:=zdH ((zfw b)[i]'hi) (by have:=hn _ (List.getElem_mem (l:=zfw b) hi);omega)
   have hle:((bp0 b i).length+8≤2^47)=True:=eq_true (by rw[zmy b hi0];omega)
   have hsu:=zws b (i:=i) hi
   have hsl:(bp0 b (i+1)).length=(bp0 b i).length+8:=by rw[hsu,List.length_append,zaX]
   obtain⟨j,hj⟩:∃j,i+1=j:=⟨_,rfl⟩
   rw[hj]at hw hsu hsl
   rcases(show i=0∨i=1∨i=2∨i=3 by omega)with rfl|rfl|rfl|rfl
   all_goals
    refine zL (I hle (I t8 (I @zat (I @List.length_map.{0,0} (I @zaX zca))))) (hpn) ?_
    exact hK _ j (Gh.canon [1,4] [] [] (zk (I hw (I hsl hagg))) rfl (by rw[hsu];simp only[roq,zad,List.map_append];rfl)) (by omega) rfl (by omega)
  ·have hi:i=4:=by
    have:¬(i:Int)<4:=by simpa using hge
    omega
   subst hi
   have w3:IntKind.u8.wrap (b.reqs.length:Int)=b.reqs.length:=zdT (by omega) (by omega)
   have hle:((bp0 b 4).length+1≤2^47)=True:=eq_true (by rw[zmy b (Nat.le_refl _)];omega)
   have hz:(bp1 b 0).length=(bp0 b 4).length+1:=by rw[zqy,List.length_append,List.length_singleton]
   refine zL0 (I w3 (I hle (I @zat @List.length_map.{0,0}))) ?_
   refine zai (τ:=Nat) (fun i=>⟨(dq4 (.one (.own ⟨4,1,1⟩ 0 (bp1 b i).length)::dq6 (zez (al b.reqs.length (zbS b.reqs)::ai b.reqs.length::ai i::zuO [])))),[(1,⟨2,[]⟩),(19,⟨2,[]⟩),(4,⟨2,[none,roq 1 1 (zad (bp1 b i))]⟩),(7,⟨2,[]⟩),(36,⟨2,[]⟩),(41,⟨2,[]⟩),(48,⟨2,[]⟩),(10,⟨2,[]⟩),(11,⟨2,[]⟩),(59,⟨2,[]⟩),(64,⟨2,[]⟩)]⟩)
    (fun i=>i≤b.reqs.length) (fun _=>()) (fun i=>b.reqs.length - i) 0
    (Gh.canon [4] [10,11,59,64] [] (zk hz) rfl (by rw[zqy];simp only[roq,zad,List.map_append];rfl)) (Nat.zero_le _) ?_
   intro i hi0 hF K hK
   refine zw ?_
   refine zaa (fun hlt=> ?_) (fun hge=> ?_)
   ·have hi:i<b.reqs.length:=by simpa using hlt
    have hat:=zfC hi
    have hw:=zal hi (by omega)
    have hm:=h2 _ (List.getElem_mem hi)
    have hpt:=zn5 b.reqs[i] hm
    have hl0:=zuk h2 i
    have hl1:=zmA hm
    have hle:((bp1 b i).length+(zik b.reqs[i]).length≤2^47)=True:=eq_true (by omega)
    have hsl:(bp1 b (i+1)).length=(bp1 b i).length+(zik b.reqs[i]).length:=by rw[zqx hi,List.length_append]
    refine zL (I hat (I @zaP (I hle (I @zat (I @List.length_map.{0,0} zca))))) (hpt) ?_
    exact hK _ (i+1) (Gh.canon [4] [] [] (zk (I hw hsl)) rfl (by rw[zqx hi];simp only[roq,zad,List.map_append];rfl)) hi rfl (by omega)
   ·have hi:i=b.reqs.length:=by
     have:¬(i:Int)<b.reqs.length:=by simpa using hge
     omega
    subst hi
    exact zW0 trivial
 ·rw[zeH,if_pos hf]
  rw[show b.lent=[db true,di b.view,di b.tip.view,di b.tip.slot,di b.time, .lent b.reqs.length (zbS b.reqs)] from by rw[←hf]]at hmy
  exact zW hf (hmy)
end Go.Proofs.YtliimajkpggbhaaGreat
