import Derived.Test.YtbpmcjeeeiffhaaGreatK8
import Derived.Test.YtbpmcjeeeiffhaaGreatL6
namespace Go.Proofs.YtbpmcjeeeiffhaaGreat
open Go.Pk
set_option maxRecDepth 100000
set_option linter.unusedSimpArgs false
set_option linter.unusedVariables false
def textI (s:ByteArray):List Int:=(s.size:Int)::s.data.toList.map fun b=>(b.toNat:Int)
theorem znM (s:ByteArray):textB s=bytesE (textI s):=by simp[textB,textI,bytesE,textE]
theorem zbT (s:ByteArray):(textI s).length=1+s.size:=by simp[textI,zey,Nat.add_comm]
def grantI (g:Grant):List Int:=textI g.name++numB g.token
def grantsI (l:List Grant):List Int:=l.flatMap grantI
def replyI (r:Reply):List Int:=[r.code]++(numB r.session++([r.ahead,(r.held.length:Int)]++grantsI r.held))
def answerI (m:Memo):List Int:=[m.client]++(numB m.seq++replyI m.reply)
theorem za7 (n:Int):(numB n).length=8:=rfl
theorem zlL (g:Grant):(grantI g).length=9+g.name.size:=by simp[grantI,zbT,za7];omega
theorem zd8:∀{l:List Grant} {k:Nat},(∀g∈l,g.name.size≤k)→(grantsI l).length≤l.length*(9+k)
 |[],k,_=>by simp[grantsI]
 |g::l,k,h=>by
  have h1:=zd8 (l:=l) (k:=k) fun x hx=>h x (by simp[hx])
  have h2:=h g (by simp)
  rw[grantsI,List.flatMap_cons,List.length_append,List.length_cons,zlL,Nat.add_mul]
  unfold grantsI at h1
  omega
theorem znN (v:Int):IntKind.u8.wrap v=v % 256:=by
 unfold IntKind.wrap
 simp[IntKind.bits,IntKind.signed]
theorem znO (v:Int) (k:Nat):byteAt v k=v / (2^(8*(7 - k))) % 256:=by
 rw[byteAt,znN,Int.fdiv_eq_ediv_of_nonneg _ (Int.pow_nonneg (by decide))]
theorem zq9 (v:Int) (h:0≤v∧v<4611686018427387904):numV (numB v)=v:=by
 have e:numB v=[v / 72057594037927936 % 256,v / 281474976710656 % 256,v / 1099511627776 % 256,v / 4294967296 % 256,v / 16777216 % 256,v / 65536 % 256,v / 256 % 256,v % 256]:=by
  show List.map (byteAt v) [0,1,2,3,4,5,6,7]=_
  simp only[List.map_cons,List.map_nil,znO]
  simp
 rw[e]
 simp only[numV,List.foldl_cons,List.foldl_nil]
 have d1:v / 65536=v / 256 / 256:=by omega
 have d2:v / 16777216=v / 65536 / 256:=by omega
 have d3:v / 4294967296=v / 16777216 / 256:=by omega
 have d4:v / 1099511627776=v / 4294967296 / 256:=by omega
 have d5:v / 281474976710656=v / 1099511627776 / 256:=by omega
 have d6:v / 72057594037927936=v / 281474976710656 / 256:=by omega
 have t0:0*256+v / 72057594037927936 % 256=v / 72057594037927936:=by omega
 have t1:v / 72057594037927936*256+v / 281474976710656 % 256=v / 281474976710656:=by rw[d6];omega
 have t2:v / 281474976710656*256+v / 1099511627776 % 256=v / 1099511627776:=by rw[d5];omega
 have t3:v / 1099511627776*256+v / 4294967296 % 256=v / 4294967296:=by rw[d4];omega
 have t4:v / 4294967296*256+v / 16777216 % 256=v / 16777216:=by rw[d3];omega
 have t5:v / 16777216*256+v / 65536 % 256=v / 65536:=by rw[d2];omega
 have t6:v / 65536*256+v / 256 % 256=v / 256:=by rw[d1];omega
 have t7:v / 256*256+v % 256=v:=by omega
 rw[t0,t1,t2,t3,t4,t5,t6,t7]
theorem zaI {bs a rest:List Int} {p:Nat} (h:bs.drop p=a++rest):bs.drop (p+a.length)=rest:=by
 rw[←List.drop_drop,h,List.drop_left]
theorem zjR {bs a rest:List Int} {p:Nat} (h:bs.drop p=a++rest) (ha:a≠[]):p+a.length≤bs.length:=by
 have:=congrArg List.length h
 rw[List.length_drop,List.length_append]at this
 have:0<a.length:=List.length_pos_iff.2 ha
 omega
theorem short_at {n p k:Nat} (h:p+k≤n):shortP n (p:Int) (k:Int)=false:=by
 unfold shortP
 simp;omega
theorem zeN {bs:List Int} {p:Nat} {x:Int} {rest:List Int} (h:bs.drop p=[x]++rest):dByte bs p=(x,((p+1:Nat):Int),0):=by
 have h1:=zjR h (by simp)
 simp only[List.length_singleton]at h1
 rw[dByte,if_neg (by rw[show(1:Int)=((1:Nat):Int) from rfl,short_at h1];simp),Int.toNat_natCast]
 have:bs.getD p 0=x:=by
  have:=congrArg (fun l=>l[0]?) h
  simp only[List.getElem?_drop,Nat.add_zero,List.singleton_append,List.getElem?_cons_zero]at this
  rw[List.getD_eq_getElem?_getD,this];rfl
 rw[this];simp
theorem zh1 {bs:List Int} {p:Nat} {v:Int} {rest:List Int} (h:bs.drop p=numB v++rest) (hv:0≤v∧v<4611686018427387904):dNum bs p=(v,((p+8:Nat):Int),0):=by
 have h1:=zjR h (by intro h;have:=congrArg List.length h;rw[za7]at this;simp at this)
 rw[za7]at h1
 have h2:(bs.drop p).take 8=numB v:=by rw[h];exact List.take_left' (za7 v)
 rw[dNum,if_neg (by rw[show(8:Int)=((8:Nat):Int) from rfl,short_at h1];simp),Int.toNat_natCast,h2,zq9 v hv,if_pos hv.2];simp
theorem zlM (s:ByteArray):strOf (s.data.toList.map fun b=>(b.toNat:Int))=s:=by
 unfold strOf
 rw[List.map_map]
 have:(fun n:Int=>UInt8.ofNat n.toNat)∘(fun b:UInt8=>(b.toNat:Int))=id:=by
  funext b;simp
 rw[this,List.map_id]
theorem zkQ {bs:List Int} {p:Nat} {s:ByteArray} {most:Int} {rest:List Int} (h:bs.drop p=textI s++rest) (hs:(s.size:Int)≤most):dText bs p most=(s,((p+(1+s.size):Nat):Int),0):=by
 have h1:=zjR h (by simp[textI])
 rw[zbT]at h1
 have hg:bs.getD p 0=(s.size:Int):=by
  have:=congrArg (fun l=>l[0]?) h
  simp only[List.getElem?_drop,Nat.add_zero,textI,List.cons_append,List.getElem?_cons_zero]at this
  rw[List.getD_eq_getElem?_getD,this];rfl
 have h2:(bs.drop (p+1)).take s.size=s.data.toList.map fun b=>(b.toNat:Int):=by
  rw[←List.drop_drop,h,textI,List.cons_append,List.drop_succ_cons,List.drop_zero]
  exact List.take_left' (by simp[zey])
 have hs1:=short_at (n:=bs.length) (p:=p) (k:=1) (by omega)
 have hs2:=short_at (n:=bs.length) (p:=p+1) (k:=s.size) (by omega)
 rw[Int.natCast_add]at hs2
 simp only[Int.ofNat_one,Int.natCast_one]at hs1 hs2
 rw[dText,if_neg (by rw[hs1];simp),Int.toNat_natCast,hg,if_neg (by simpa using hs),if_neg (by rw[hs2];simp),Int.toNat_natCast,h2,zlM]
 simp;omega
theorem zg8 {bs:List Int}:∀{l:List Grant} {p:Nat} {acc:List Grant} {rest:List Int},bs.drop p=grantsI l++rest→(∀g∈l,g.name.size≤12∧0≤g.token∧g.token<4611686018427387904)→
  dGrants bs l.length p acc=(acc++l,((p+(grantsI l).length:Nat):Int),0)
 |[],p,acc,rest,h,_=>by simp[dGrants,grantsI]
 |g::l,p,acc,rest,h,hg=>by
  obtain⟨g1,g2⟩:=hg g (by simp)
  have h1:bs.drop p=textI g.name++(numB g.token++(grantsI l++rest)):=by rw[h];simp[grantsI,grantI]
  have e1:=zkQ h1 (most:=12) (by omega)
  have h2:=zaI h1
  rw[zbT]at h2
  have e2:=zh1 h2 g2
  have h3:=zaI h2
  rw[za7]at h3
  have ih:=zg8 (l:=l) (acc:=acc++[g]) h3 fun x hx=>hg x (by simp[hx])
  rw[List.length_cons,dGrants,e1]
  simp only
  rw[e2]
  simp only[ne_eq,not_true_eq_false,if_false]
  rw[show({name:=g.name,token:=g.token}:Grant)=g from rfl,ih]
  have:(grantsI (g::l)).length=1+g.name.size+8+(grantsI l).length:=by simp[grantsI,grantI,zbT,za7];omega
  rw[this,List.append_assoc]
  simp;omega
theorem zb7 {r:Reply} (h:replyB r=true):(0≤r.code∧r.code≤12)∧(0≤r.session∧r.session≤2305843009213693952)∧(0≤r.ahead∧r.ahead≤3)∧r.held.length≤4∧checkP (grantQ r.held) 0 r.held=true:=by
 unfold replyB at h
 have hH:High=2305843009213693952:=rfl
 simp only[Bool.and_eq_true,Bool.not_eq_true',Bool.or_eq_false_iff,decide_eq_false_iff_not,hH]at h
 obtain⟨⟨h1,h2⟩,h3⟩:=h
 refine⟨by omega,by omega,by omega,by omega,h3⟩
theorem zg9 {α:Type} {q:Nat→α→Bool}:∀{l:List α} {i:Nat},checkP q i l=true→∀x∈l,∃k,q k x=true
 |[],_,_,x,hx=>by cases hx
 |a::l,i,h,x,hx=>by
  rw[checkP]at h
  split at h
  ·rename_i hq
   rcases List.mem_cons.1 hx with rfl|hx
   ·exact⟨i,hq⟩
   ·exact zg9 h x hx
  ·cases h
theorem zcf {r:Reply} (h:replyB r=true):∀g∈r.held,g.name.size≤12∧0≤g.token∧g.token<4611686018427387904:=by
 intro g hg
 obtain⟨k,hk⟩:=zg9 (zb7 h).2.2.2.2 g hg
 unfold grantQ at hk
 have hH:High=2305843009213693952:=rfl
 simp only[Bool.not_eq_true',Bool.or_eq_false_iff,decide_eq_false_iff_not,hH,Bool.not_eq_false']at hk
 obtain⟨⟨⟨h1,h2⟩,h3⟩,h4⟩:=hk
 have:nameP g.name=true:=by simpa using h1
 unfold nameP at this
 simp only[Bool.and_eq_true,decide_eq_true_eq]at this
 omega
theorem znP {bs:List Int} {r:Reply} {p:Nat} {rest:List Int} (h:bs.drop p=replyI r++rest) (hr:replyB r=true):dReply bs p=(r,((p+(replyI r).length:Nat):Int),0):=by
 obtain⟨f1,f2,f3,f4,f5⟩:=zb7 hr
 have h1:bs.drop p=[r.code]++(numB r.session++([r.ahead]++([(r.held.length:Int)]++(grantsI r.held++rest)))):=by rw[h];simp[replyI]
 have e1:=zeN h1
 have h2:=zaI h1
 have e2:=zh1 (p:=p+[r.code].length) h2 (by omega)
 have h3:=zaI h2
 rw[za7]at h3
 have e3:=zeN h3
 have h4:=zaI h3
 have e4:=zeN h4
 have h5:=zaI h4
 have e5:=zg8 (acc:=[]) h5 (zcf hr)
 simp only[List.length_singleton]at e2 e3 e4 e5
 rw[dReply,e1]
 simp only[ne_eq,not_true_eq_false,if_false]
 rw[e2]
 simp only[ne_eq,not_true_eq_false,if_false]
 rw[e3]
 simp only[ne_eq,not_true_eq_false,if_false]
 rw[e4]
 simp only[ne_eq,not_true_eq_false,if_false,Int.toNat_natCast]
 rw[e5]
 simp only[ne_eq,not_true_eq_false,if_false,List.nil_append]
 rw[if_neg (by omega),show(⟨r.code,r.session,r.ahead,r.held⟩:Reply)=r from rfl,if_neg (by rw[hr];simp)]
 have:(replyI r).length=1+8+1+1+(grantsI r.held).length:=by simp[replyI,za7];omega
 rw[this]
 simp;omega
theorem zbU {m:Memo} (h:answerB m=true):(0≤m.client∧m.client<8)∧(1≤m.seq∧m.seq≤2305843009213693952)∧replyB m.reply=true:=by
 unfold answerB at h
 have hH:High=2305843009213693952:=rfl
 simp only[Bool.and_eq_true,decide_eq_true_eq,hH]at h
 exact⟨by omega,by omega,h.2⟩
theorem zlN {bs:List Int} {m:Memo} {p:Nat} {rest:List Int} (h:bs.drop p=answerI m++rest) (hm:answerB m=true):dAnswer bs p=(m,((p+(answerI m).length:Nat):Int),0):=by
 obtain⟨f1,f2,f3⟩:=zbU hm
 have h1:bs.drop p=[m.client]++(numB m.seq++(replyI m.reply++rest)):=by rw[h];simp[answerI]
 have e1:=zeN h1
 have h2:=zaI h1
 have e2:=zh1 (p:=p+[m.client].length) h2 (by omega)
 have h3:=zaI h2
 rw[za7]at h3
 have e3:=znP h3 f3
 simp only[List.length_singleton]at e2 e3
 rw[dAnswer,e1]
 simp only[ne_eq,not_true_eq_false,if_false]
 rw[e2]
 simp only[ne_eq,not_true_eq_false,if_false]
 rw[e3]
 simp only[ne_eq,not_true_eq_false,if_false]
 rw[show(⟨m.client,m.seq,m.reply⟩:Memo)=m from rfl,if_neg (by rw[hm];simp)]
 have:(answerI m).length=1+8+(replyI m.reply).length:=by simp[answerI,za7];omega
 rw[this]
 simp;omega
end Go.Proofs.YtbpmcjeeeiffhaaGreat
namespace Go.Proofs.YtbpmcjeeeiffhaaGreat
open Go.Pk
set_option maxRecDepth 100000
set_option linter.unusedSimpArgs false
set_option linter.unusedVariables false
theorem zlK {l:List Grant} {i:Nat} (hi:i<l.length):grantsI (l.take (i+1))=grantsI (l.take i)++(textI l[i].name++numB l[i].token):=by
 rw[List.take_succ_eq_append_getElem hi,grantsI,List.flatMap_append];simp[grantsI,grantI]
def headI (r:Reply):List Int:=[r.code]++(numB r.session++[r.ahead,(r.held.length:Int)])
def repB (r:Reply) (i:Nat):List Int:=headI r++grantsI (r.held.take i)
theorem zi7 {r:Reply} {i:Nat} (hi:i<r.held.length):repB r (i+1)=(repB r i++textI r.held[i].name)++numB r.held[i].token:=by
 rw[repB,zlK hi,repB];simp
theorem zi8 {r:Reply}:repB r 0=headI r:=by simp[repB,grantsI]
theorem zo3 {r:Reply}:repB r r.held.length=replyI r:=by simp[repB,headI,replyI]
theorem zgl (r:Reply):(headI r).length=11:=by simp[headI,za7]
set_option maxHeartbeats 1000000 in
theorem zjQ (r:Reply) (h:replyB r=true):CallOK Tryz.prog 77 [.f (.agg r.lent)] (fun x o=>x=[.one (.own 1 (replyI r).length (bytesE (replyI r)) false),ri 0]∧o=[]):=by
 obtain⟨f1,f2,f3,f4,f5⟩:=zb7 h
 have hgr:=zcf h
 refine zae zat mixed (T:=Ty) (n:=63) Tryz.func77 (c:=Tryz.f77.body.getD .skip) rfl Tryz.results77 Tryz.ntmps77 Tryz.call77 ?_
 simp only[Tryz.f77,Option.getD]
 have hmy:=zc1 r ⟨by omega,fun g hg=>by have:=(hgr g hg).1;omega⟩
 rw[h]at hmy
 have hpn:=zex r.session (by omega)
 have w1:IntKind.u8.wrap r.code=r.code:=zfm (by omega) (by omega)
 have w2:IntKind.u8.wrap r.ahead=r.ahead:=zfm (by omega) (by omega)
 have w3:IntKind.u8.wrap (r.held.length:Int)=r.held.length:=zfm (by omega) (by omega)
 have hcc:CallOK Tryz.prog 30 [.f (al 3 [.sl 1 (bytesE [r.code]), .sl 8 (bytesE (numB r.session)), .sl 2 (bytesE [r.ahead,(r.held.length:Int)])])] (fun x o=>x=[.one (.own 1 11 (bytesE (headI r)) false)]∧o=[]):=by
  have hc:=zfZ [bytesE [r.code],bytesE (numB r.session),bytesE [r.ahead,(r.held.length:Int)]] (by simp) (fun l hl=>by
   simp only[List.mem_cons,List.not_mem_nil,or_false]at hl
   rcases hl with rfl|rfl|rfl
   ·simp
   ·rw[zdK];decide
   ·simp)
  rw[show [bytesE [r.code],bytesE (numB r.session),bytesE [r.ahead,(r.held.length:Int)]].flatten=bytesE (headI r) from by simp[headI,bytesE]]at hc
  rw[show(bytesE (headI r)).length=11 from by rw[List.length_map,zgl]]at hc
  exact hc
 have t1:(bytesE (numB r.session)).take 8=bytesE (numB r.session):=List.take_of_length_le (by rw[zdK];decide)
 have t2:toDs (sub 0 2 1 [C.d (uD r.ahead),C.d (uD (r.held.length:Int))])=some [uD r.ahead,uD (r.held.length:Int)]:=rfl
 repeat'(first|refine zq (I t1 (I t2 (I w1 (I w2 w3)))) ?_|exact zd (I t1 (I t2 (I w1 (I w2 w3))))|refine zc (hmy) ?_|refine zg (hmy) ?_|refine zc (hpn) ?_|refine zg (hpn) ?_|refine zc (hcc) ?_|refine zg (hcc) ?_|refine zaa ?_|refine zab (fun hb=> ?_) (fun hb=> ?_)|(refine And.intro ?_ ?_;exact zI)|refine And.intro (fun hg=> ?_) (fun hg=> ?_)|exact zC|fail)
 refine zaq (τ:=Nat) (fun i=>⟨[dd, .one (.ptr ⟨1,0,1⟩ 0),dd,dd,dd,dd, .one (.own ⟨6,1,1⟩ 0 (repB r i).length),dd,dd,dd,dd,dd,dd,dd,dd,dd,dd,dd,dd,dd,dd,dd,dd,dd,dd,dd,dd,dd,dd,dd,dd,dd,dd,dd,dd,dd,dd,dd,al r.held.length (grantsE r.held),ai r.held.length,ai i,dd,dd,dd,dd,dd,dd,dd,dd,dd,dd,dd,dd,dd,dd,dd,dd,dd,dd,dd,dd,dd,dd],[(1,{next:=2,l:=[some {e:=1,var:=true,fz:=false,sz:=0,cells:=[di r.code,di r.session,di r.ahead, .lent r.held.length (grantsE r.held)]},none,none,none,none]}),(19,⟨2,[]⟩),(4,⟨2,[]⟩),(25,⟨2,[]⟩),(34,⟨2,[]⟩),(35,⟨2,[]⟩),(36,⟨2,[]⟩),(6,{next:=2,l:=[none,some {e:=1,var:=false,fz:=false,sz:=1,cells:=(bytesE (repB r i)).map C.d}]}),(8,⟨2,[]⟩),(9,⟨2,[]⟩),(11,⟨2,[]⟩),(47,⟨2,[]⟩),(53,⟨2,[]⟩),(58,⟨2,[]⟩),(60,⟨2,[]⟩)]⟩)
  (fun i=>i≤r.held.length) (fun _=>()) (fun i=>r.held.length - i) 0
  (Gh.canon [1,6] [8,9,11,47,53,58,60] [] (by simp only[zi8,zgl,zah,zau,zai,zak,zal,zam,List.set_cons_zero,List.set_cons_succ,and_true,true_and,Int.natCast_zero,Int.cast_ofNat_Int,D.v.injEq,Value.int.injEq];try(repeat'(first|rfl|omega|with_reducible apply And.intro))) rfl (by rw[zi8];rfl)) (Nat.zero_le _) ?_
 intro i hi0 hF K hK
 refine zw ?_
 refine zab (fun hlt=> ?_) (fun hge=> ?_)
 ·have hi:i<r.held.length:=by simpa using hlt
  have hat:=zbo hi
  have hw:=zar hi (by omega)
  have hg:=hgr _ (List.getElem_mem hi)
  have hpt:=zgX r.held[i].name (by omega)
  have hpm:=zex r.held[i].token hg.2
  have hlb:(repB r i).length≤11+4*21:=by
   rw[repB,List.length_append,zgl]
   have:=zd8 (l:=r.held.take i) (k:=12) fun g hx=>(hgr g (List.mem_of_mem_take hx)).1
   have:(r.held.take i).length≤4:=by rw[List.length_take];omega
   omega
  have hle:((repB r i).length+(1+r.held[i].name.size)≤2^47)=True:=eq_true (by omega)
  have hle2:((repB r i).length+(1+r.held[i].name.size)+8≤2^47)=True:=eq_true (by omega)
  have k1:(textB r.held[i].name).take (1+r.held[i].name.size)=textB r.held[i].name:=List.take_of_length_le (by rw[zdq];exact Nat.le_refl _)
  have k2:(bytesE (numB r.held[i].token)).take 8=bytesE (numB r.held[i].token):=List.take_of_length_le (by rw[zdK];decide)
  have k3:(bytesE (repB r i)).take (repB r i).length=bytesE (repB r i):=List.take_of_length_le (by rw[List.length_map];exact Nat.le_refl _)
  have k4:(bytesE (repB r i)++textB r.held[i].name).take ((repB r i).length+(1+r.held[i].name.size))=bytesE (repB r i)++textB r.held[i].name:=List.take_of_length_le (by rw[List.length_append,List.length_map,zdq];exact Nat.le_refl _)
  have hsl:(repB r (i+1)).length=(repB r i).length+(1+r.held[i].name.size)+8:=by rw[zi7 hi,List.length_append,List.length_append,zbT,za7]
  repeat'(first|refine zq (I hat (I @List.cons_append.{0} (I @List.nil_append.{0} (I @zaz (I hle (I hle2 (I k1 (I k2 (I k3 (I k4 (I @zdq (I @List.length_map.{0,0} @za7)))))))))))) ?_|exact zd (I hat (I @List.cons_append.{0} (I @List.nil_append.{0} (I @zaz (I hle (I hle2 (I k1 (I k2 (I k3 (I k4 (I @zdq (I @List.length_map.{0,0} @za7))))))))))))|refine zc (hpt) ?_|refine zg (hpt) ?_|refine zc (hpm) ?_|refine zg (hpm) ?_|refine zaa ?_|refine zab (fun hb=> ?_) (fun hb=> ?_)|(refine And.intro ?_ ?_;exact zI)|refine And.intro (fun hg=> ?_) (fun hg=> ?_)|exact zC|fail)
  exact hK _ (i+1) (Gh.canon [1,6] [] [] (by simp only[hw,hsl,zah,zau,zai,zak,zal,zam,List.set_cons_zero,List.set_cons_succ,and_true,true_and,Int.natCast_zero,Int.cast_ofNat_Int,D.v.injEq,Value.int.injEq];try(repeat'(first|rfl|omega|with_reducible apply And.intro))) rfl (by rw[zi7 hi,znM];simp only[bytesE,List.map_append];rfl)) hi rfl (by omega)
 ·have hi:i=r.held.length:=by
   have:¬(i:Int)<r.held.length:=by simpa using hge
   omega
  subst hi
  repeat'(first|refine zq0 ?_|exact zd0|refine zaa ?_|refine zab (fun hb=> ?_) (fun hb=> ?_)|(refine And.intro ?_ ?_;exact zI)|refine And.intro (fun hg=> ?_) (fun hg=> ?_)|exact zC|fail)
  rw[zo3]
end Go.Proofs.YtbpmcjeeeiffhaaGreat
namespace Go.Proofs.YtbpmcjeeeiffhaaGreat
open Go.Pk
set_option maxRecDepth 100000
set_option linter.unusedSimpArgs false
set_option linter.unusedVariables false
theorem zg7 {r:Reply} (h:replyB r=true):(replyI r).length≤95:=by
 have hgr:=zcf h
 have hf:=(zb7 h).2.2.2.1
 have:=zd8 (l:=r.held) (k:=12) fun g hg=>(hgr g hg).1
 have e:(replyI r).length=11+(grantsI r.held).length:=by simp[replyI,za7];omega
 omega
theorem zgk {m:Memo} (h:answerB m=true):(answerI m).length≤104:=by
 have:=zg7 (zbU h).2.2
 have e:(answerI m).length=9+(replyI m.reply).length:=by simp[answerI,za7];omega
 omega
theorem zjP {m:Memo} (h:answerB m=true):replyOk m.reply:=by
 have hgr:=zcf (zbU h).2.2
 have hf:=(zb7 (zbU h).2.2).2.2.2.1
 exact⟨by omega,fun g hg=>by have:=(hgr g hg).1;omega⟩
theorem zi6 (m:Memo) (h:answerB m=true):CallOK Tryz.prog 34 [.f (.agg m.lent)] (fun x o=>x=[.one (.own 1 (answerI m).length (bytesE (answerI m)) false),ri 0]∧o=[]):=by
 refine zae zat mixed (T:=Ty) (n:=31) Tryz.func34 (c:=Tryz.f34.body.getD .skip) rfl Tryz.results34 Tryz.ntmps34 Tryz.call34 ?_
 simp only[Tryz.f34,Option.getD]
 obtain⟨f1,f2,f3⟩:=zbU h
 have hmy:=zds m (zjP h)
 rw[h]at hmy
 have hpn:=zex m.seq (by omega)
 have hpr:=zjQ m.reply f3
 have hrl:=zg7 f3
 have w1:IntKind.u8.wrap m.client=m.client:=zfm (by omega) (by omega)
 have hcc:CallOK Tryz.prog 30 [.f (al 3 [.sl 1 (bytesE [m.client]), .sl 8 (bytesE (numB m.seq)), .sl (replyI m.reply).length (bytesE (replyI m.reply))])] (fun x o=>x=[.one (.own 1 (answerI m).length (bytesE (answerI m)) false)]∧o=[]):=by
  have hc:=zfZ [bytesE [m.client],bytesE (numB m.seq),bytesE (replyI m.reply)] (by simp) (fun l hl=>by
   simp only[List.mem_cons,List.not_mem_nil,or_false]at hl
   rcases hl with rfl|rfl|rfl
   ·simp
   ·rw[zdK];decide
   ·rw[List.length_map];omega)
  rw[show [bytesE [m.client],bytesE (numB m.seq),bytesE (replyI m.reply)].flatten=bytesE (answerI m) from by simp[answerI,bytesE]]at hc
  simp only[catE,List.map_cons,List.map_nil,List.length_map,List.length_cons,List.length_nil,za7]at hc
  exact hc
 have t1:(bytesE (numB m.seq)).take 8=bytesE (numB m.seq):=List.take_of_length_le (by rw[zdK];decide)
 have t2:(bytesE (replyI m.reply)).take (replyI m.reply).length=bytesE (replyI m.reply):=List.take_of_length_le (by rw[List.length_map];exact Nat.le_refl _)
 repeat'(first|refine zq (I t1 (I t2 w1)) ?_|exact zd (I t1 (I t2 w1))|refine zc (hmy) ?_|refine zg (hmy) ?_|refine zc (hpn) ?_|refine zg (hpn) ?_|refine zc (hpr) ?_|refine zg (hpr) ?_|refine zc (hcc) ?_|refine zg (hcc) ?_|refine zaa ?_|refine zab (fun hb=> ?_) (fun hb=> ?_)|(refine And.intro ?_ ?_;exact zI)|refine And.intro (fun hg=> ?_) (fun hg=> ?_)|exact zC|fail)
end Go.Proofs.YtbpmcjeeeiffhaaGreat
namespace Go.Proofs.YtbpmcjeeeiffhaaGreat
open Go.Pk
set_option maxRecDepth 100000
set_option linter.unusedSimpArgs false
set_option linter.unusedVariables false
theorem ze2 (v:Int) (h:0≤v∧v<4611686018427387904):CallOK Tryz.prog 31 [.f (ai v)] (fun r o=>r=[.one (.own 1 8 (bytesE (numB v)) false)]∧o=[]):=by
 refine zae zat mixed (T:=Ty) (n:=11) Tryz.func31 (c:=Tryz.f31.body.getD .skip) rfl Tryz.results31 Tryz.ntmps31 Tryz.call31 ?_
 simp only[Tryz.f31,Option.getD]
 have hp:=zex v h
 repeat'(first|refine zq0 ?_|exact zd0|refine zc (hp) ?_|refine zg (hp) ?_|refine zaa ?_|refine zab (fun hb=> ?_) (fun hb=> ?_)|(refine And.intro ?_ ?_;exact zI)|refine And.intro (fun hg=> ?_) (fun hg=> ?_)|exact zC|fail)
theorem zg6:∀ls:List (List Int),(ls.map bytesE).flatten=bytesE ls.flatten
 |[]=>rfl
 |l::ls=>by simp only[List.map_cons,List.flatten_cons,zg6 ls,List.map_append]
theorem zjL (ls:List (List Int)) (hl:ls.length<2^10) (hs:∀l∈ls,l.length≤2^12):
  CallOK Tryz.prog 30 [.f (al ls.length (ls.map fun l=> .sl l.length (bytesE l)))] (fun r o=>r=[.one (.own 1 ls.flatten.length (bytesE ls.flatten) false)]∧o=[]):=by
 have h:=zfZ (ls.map bytesE) (by simpa using hl) (fun l h=>by
  obtain⟨x,hx,rfl⟩:=List.mem_map.1 h
  rw[List.length_map];exact hs x hx)
 rw[zg6,zaU,List.length_map]at h
 have e:catE (ls.map bytesE)=ls.map fun l=> .sl l.length (bytesE l):=by
  rw[catE,List.map_map]
  exact List.map_congr_left fun l _=>by simp only[Function.comp,zaU]
 rw[e]at h
 exact h
def sessI (x:Sess):List Int:=x.client::(numB x.num++numB x.renewed)
def lk0 (k:Lk):List Int:=textI k.name++(k.holder::(numB k.token++[(k.line.length:Int)]))
def lockI (k:Lk):List Int:=lk0 k++k.line
def headS (s:St):List Int:=numB s.time++(numB s.num++(numB s.token++[(s.sess.length:Int)]))
def sb1 (s:St) (i:Nat):List Int:=headS s++(s.sess.take i).flatMap sessI
def sb2 (s:St) (i:Nat):List Int:=(sb1 s s.sess.length++[(s.locks.length:Int)])++(s.locks.take i).flatMap lockI
def sb3 (s:St) (i:Nat):List Int:=(sb2 s s.locks.length++[(s.memos.length:Int)])++(s.memos.take i).flatMap answerI
def stateI (s:St):List Int:=sb3 s s.memos.length
theorem zdu {α:Type} (f:α→List Int) {l:List α} {i:Nat} (hi:i<l.length):(l.take (i+1)).flatMap f=(l.take i).flatMap f++f l[i]:=by
 rw[List.take_succ_eq_append_getElem hi,List.flatMap_append];simp
theorem zo1 {s:St} {i:Nat} (hi:i<s.sess.length):sb1 s (i+1)=sb1 s i++sessI s.sess[i]:=by rw[sb1,zdu _ hi,sb1,List.append_assoc]
theorem zo2 {s:St} {i:Nat} (hi:i<s.locks.length):sb2 s (i+1)=sb2 s i++lockI s.locks[i]:=by rw[sb2,zdu _ hi,sb2,←List.append_assoc]
theorem zkK {s:St} {i:Nat} (hi:i<s.memos.length):sb3 s (i+1)=sb3 s i++answerI s.memos[i]:=by rw[sb3,zdu _ hi,sb3,←List.append_assoc]
theorem zkL {s:St}:sb1 s 0=headS s:=by simp[sb1]
theorem zkM {s:St}:sb2 s 0=sb1 s s.sess.length++[(s.locks.length:Int)]:=by simp[sb2]
theorem zkN {s:St}:sb3 s 0=sb2 s s.locks.length++[(s.memos.length:Int)]:=by simp[sb3]
theorem zdO {α:Type} (f:α→List Int) {k:Nat}:∀{l:List α},(∀x∈l,(f x).length≤k)→(l.flatMap f).length≤l.length*k
 |[],_=>by simp
 |x::l,h=>by
  rw[List.flatMap_cons,List.length_append,List.length_cons,Nat.add_mul]
  have:=h x (by simp)
  have:=zdO f (l:=l) fun y hy=>h y (by simp[hy])
  omega
theorem zgj (s:St):(headS s).length=25:=by simp[headS,za7]
theorem zi4 (x:Sess):(sessI x).length=17:=by simp[sessI,za7]
theorem zjM (k:Lk):(lk0 k).length=11+k.name.size:=by simp[lk0,za7,zbT];omega
theorem zjN (s:St) (i:Nat):(sb1 s i).length≤25+i*17:=by
 rw[sb1,List.length_append,zgj]
 have:=zdO sessI (l:=s.sess.take i) (k:=17) fun x _=>by rw[zi4];exact Nat.le_refl _
 have h2:(s.sess.take i).length≤i:=by rw[List.length_take];omega
 have:=Nat.mul_le_mul_right 17 h2
 omega
theorem ze3 {s:St} (h:RightS s) {k:Lk} (hk:k∈s.locks):(lockI k).length≤26∧k.name.size≤12∧(0≤k.holder∧k.holder≤255)∧(0≤k.token∧k.token<4611686018427387904)∧k.line.length≤3∧∀c∈k.line,0≤c∧c≤255:=by
 have hH:High=2305843009213693952:=rfl
 obtain⟨a,_,b,_⟩:=h.lok k hk
 obtain⟨h1,h2,h3⟩:=zbB.1 a
 obtain⟨l1,l2,_⟩:=zbb.1 b
 have hs:=zeX h1
 refine⟨?_,hs,by omega,by omega,l1,fun c hc=> ?_⟩
 ·rw[lockI,List.length_append,zjM];omega
 ·have:=l2 c hc
  simp only[isClient,Bool.and_eq_true,decide_eq_true_eq]at this
  omega
def sb2l (s:St) (i:Nat) (k:Lk) (j:Nat):List Int:=(sb2 s i++lk0 k)++k.line.take j
theorem znL {s:St} {i:Nat} {k:Lk}:sb2l s i k 0=sb2 s i++lk0 k:=by simp[sb2l]
theorem zi5 {s:St} {i:Nat} {k:Lk} {j:Nat} (hj:j<k.line.length):sb2l s i k (j+1)=sb2l s i k j++[k.line[j]]:=by
 rw[sb2l,List.take_succ_eq_append_getElem hj,←List.append_assoc,sb2l]
theorem zkO {s:St} {i:Nat} (hi:i<s.locks.length):sb2l s i s.locks[i] s.locks[i].line.length=sb2 s (i+1):=by
 rw[sb2l,List.take_length,zo2 hi,lockI,List.append_assoc]
theorem zjO {s:St} (h:RightS s) (i:Nat):(sb2 s i).length≤115+i*26:=by
 rw[sb2,List.length_append,List.length_append]
 have:=zjN s s.sess.length
 have:=h.sl
 have:=zdO lockI (l:=s.locks.take i) (k:=26) fun x hx=>(ze3 h (List.mem_of_mem_take hx)).1
 have h2:(s.locks.take i).length≤i:=by rw[List.length_take];omega
 have:=Nat.mul_le_mul_right 26 h2
 simp only[List.length_singleton]
 omega
theorem zkP {s:St} (h:RightS s):s.memos.length≤8:=by
 have:=zeY (a:=0) (b:=8) (zkA.1 h.ms) (fun x hx=>by
  obtain⟨m,hm,rfl⟩:=List.mem_map.1 hx
  exact(zbQ (h.mok m hm)).1)
 rw[List.length_map]at this
 omega
theorem zqw {s:St} (h:RightS s) (i:Nat):(sb3 s i).length≤250+i*104:=by
 rw[sb3,List.length_append,List.length_append]
 have:=zjO h s.locks.length
 have:=h.ll
 have:=zdO answerI (l:=s.memos.take i) (k:=104) fun x hx=>zgk (h.mok x (List.mem_of_mem_take hx))
 have h2:(s.memos.take i).length≤i:=by rw[List.length_take];omega
 have:=Nat.mul_le_mul_right 104 h2
 simp only[List.length_singleton]
 omega
theorem za0 {l:List Int}:(bytesE l).take l.length=bytesE l:=List.take_of_length_le (by rw[zaU];exact Nat.le_refl _)
set_option maxHeartbeats 4000000 in
theorem zlJ (s:St) (h:RightS s):CallOK Tryz.prog 14 [.f (.agg s.lent)] (fun r o=>r=[.one (.own 1 (stateI s).length (bytesE (stateI s)) false),ri 0]∧o=[]):=by
 refine zae zat mixed (T:=Ty) (n:=137) Tryz.func14 (c:=Tryz.f14.body.getD .skip) rfl Tryz.results14 Tryz.ntmps14 Tryz.call14 ?_
 simp only[Tryz.f14,Option.getD]
 have hri:=zhJ s (zbI h)
 rw[zcj.2 h]at hri
 have hH:High=2305843009213693952:=rfl
 have ht:=h.time
 have hn:=h.num
 have hk:=h.token
 have hsl:=h.sl
 have hll:=h.ll
 have n1:=ze2 s.time (by omega)
 have n2:=ze2 s.num (by omega)
 have n3:=ze2 s.token (by omega)
 have w1:IntKind.u8.wrap (s.sess.length:Int)=s.sess.length:=zfm (by omega) (by omega)
 have hcc:CallOK Tryz.prog 30 [.f (al 4 [.sl 8 (bytesE (numB s.time)), .sl 8 (bytesE (numB s.num)), .sl 8 (bytesE (numB s.token)), .sl 1 (bytesE [(s.sess.length:Int)])])] (fun x o=>x=[.one (.own 1 25 (bytesE (headS s)) false)]∧o=[]):=by
  have hc:=zjL [numB s.time,numB s.num,numB s.token,[(s.sess.length:Int)]] (by simp) (fun l hl=>by
   simp only[List.mem_cons,List.not_mem_nil,or_false]at hl
   rcases hl with rfl|rfl|rfl|rfl<;>simp[za7])
  rw[show [numB s.time,numB s.num,numB s.token,[(s.sess.length:Int)]].flatten=headS s from by simp[headS],zgj]at hc
  exact hc
 have t8:∀v:Int,(bytesE (numB v)).take 8=bytesE (numB v):=fun v=>List.take_of_length_le (by rw[zdK];decide)
 have t1:∀x:Int,toDs (sub 0 1 1 [C.d (uD x)])=some [uD x]:=fun _=>rfl
 repeat'(first|refine zq (I t8 (I t1 w1)) ?_|exact zd (I t8 (I t1 w1))|refine zc (hri) ?_|refine zg (hri) ?_|refine zc (n1) ?_|refine zg (n1) ?_|refine zc (n2) ?_|refine zg (n2) ?_|refine zc (n3) ?_|refine zg (n3) ?_|refine zc (hcc) ?_|refine zg (hcc) ?_|refine zaa ?_|refine zab (fun hb=> ?_) (fun hb=> ?_)|(refine And.intro ?_ ?_;exact zI)|refine And.intro (fun hg=> ?_) (fun hg=> ?_)|exact zC|fail)
 refine zaq (τ:=Nat) (fun i=>⟨[dd, .one (.ptr ⟨1,0,1⟩ 0),dd,dd, .one (.own ⟨4,1,1⟩ 0 (sb1 s i).length),dd,dd,dd,dd,dd,dd,dd,dd,dd,dd,dd,dd,dd,dd,dd,dd,dd,dd,dd,dd,dd,dd,dd,dd,dd,dd,dd,dd,dd,dd,dd,dd,al s.sess.length (sessE s.sess),ai s.sess.length,ai i,dd,dd,dd,dd,dd,dd,dd,dd,dd,dd,dd,dd,dd,dd,dd,dd,dd,dd,dd,dd,dd,dd,dd,dd,dd,dd,dd,dd,dd,dd,dd,dd,dd,dd,dd,dd,dd,dd,dd,dd,dd,dd,dd,dd,dd,dd,dd,dd,dd,dd,dd,dd,dd,dd,dd,dd,dd,dd,dd,dd,dd,dd,dd,dd,dd,dd,dd,dd,dd,dd,dd,dd,dd,dd,dd,dd,dd,dd,dd,dd,dd,dd,dd,dd,dd,dd,dd,dd,dd,dd,dd,dd,dd,dd,dd,dd,dd],[(1,{next:=2,l:=[some {e:=1,var:=true,fz:=false,sz:=0,cells:=[di s.time,di s.num,di s.token, .lent s.sess.length (sessE s.sess), .lent s.locks.length (locksE s.locks), .lent s.memos.length (memosE s.memos)]},none,none,none,none,none,none]}),(22,⟨2,[]⟩),(25,⟨2,[]⟩),(28,⟨2,[]⟩),(33,⟨2,[]⟩),(34,⟨2,[]⟩),(35,⟨2,[]⟩),(4,{next:=2,l:=[none,some {e:=1,var:=false,fz:=false,sz:=1,cells:=(bytesE (sb1 s i)).map C.d}]}),(6,⟨2,[]⟩),(47,⟨2,[]⟩),(50,⟨2,[]⟩),(53,⟨2,[]⟩),(54,⟨2,[]⟩),(55,⟨2,[]⟩)]⟩)
  (fun i=>i≤s.sess.length) (fun _=>()) (fun i=>s.sess.length - i) 0
  (Gh.canon [1,4] [6,47,50,53,54,55] [] (by simp only[zkL,zgj,zah,zau,zai,zak,zal,zam,List.set_cons_zero,List.set_cons_succ,and_true,true_and,Int.natCast_zero,Int.cast_ofNat_Int,D.v.injEq,Value.int.injEq];try(repeat'(first|rfl|omega|with_reducible apply And.intro))) rfl (by rw[zkL];rfl)) (Nat.zero_le _) ?_
 intro i hi0 hF K hK
 refine zw ?_
 refine zab (fun hlt=> ?_) (fun hge=> ?_)
 ·have hi:i<s.sess.length:=by simpa using hlt
  have hat:=zbl hi
  have hw:=zar hi (by omega)
  obtain⟨f1,f2,f3⟩:=zbA.1 (h.sok _ (List.getElem_mem hi)).1
  simp only[isClient,Bool.and_eq_true,decide_eq_true_eq]at f1
  have wc:IntKind.u8.wrap s.sess[i].client=s.sess[i].client:=zfm (by omega) (by omega)
  have m1:=ze2 s.sess[i].num (by omega)
  have m2:=ze2 s.sess[i].renewed (by omega)
  have hb:=zjN s i
  have hcc:CallOK Tryz.prog 30 [.f (al 4 [.sl (sb1 s i).length (bytesE (sb1 s i)), .sl 1 (bytesE [s.sess[i].client]), .sl 8 (bytesE (numB s.sess[i].num)), .sl 8 (bytesE (numB s.sess[i].renewed))])] (fun x o=>x=[.one (.own 1 (sb1 s (i+1)).length (bytesE (sb1 s (i+1))) false)]∧o=[]):=by
   have hc:=zjL [sb1 s i,[s.sess[i].client],numB s.sess[i].num,numB s.sess[i].renewed] (by simp) (fun l hl=>by
    simp only[List.mem_cons,List.not_mem_nil,or_false]at hl
    rcases hl with rfl|rfl|rfl|rfl
    ·omega
    ·simp
    ·rw[za7];decide
    ·rw[za7];decide)
   rw[show [sb1 s i,[s.sess[i].client],numB s.sess[i].num,numB s.sess[i].renewed].flatten=sb1 s (i+1) from by rw[zo1 hi];simp[sessI]]at hc
   exact hc
  repeat'(first|refine zq (I hat (I @List.cons_append.{0} (I @List.nil_append.{0} (I @zav (I t8 (I t1 (I wc @za0))))))) ?_|exact zd (I hat (I @List.cons_append.{0} (I @List.nil_append.{0} (I @zav (I t8 (I t1 (I wc @za0)))))))|refine zc (m1) ?_|refine zg (m1) ?_|refine zc (m2) ?_|refine zg (m2) ?_|refine zc (hcc) ?_|refine zg (hcc) ?_|refine zaa ?_|refine zab (fun hb=> ?_) (fun hb=> ?_)|(refine And.intro ?_ ?_;exact zI)|refine And.intro (fun hg=> ?_) (fun hg=> ?_)|exact zC|fail)
  exact hK _ (i+1) (Gh.canon [1,4] [] [] (by simp only[hw,zah,zau,zai,zak,zal,zam,List.set_cons_zero,List.set_cons_succ,and_true,true_and,Int.natCast_zero,Int.cast_ofNat_Int,D.v.injEq,Value.int.injEq];try(repeat'(first|rfl|omega|with_reducible apply And.intro))) rfl rfl) hi rfl (by omega)
 ·have hi:i=s.sess.length:=by
   have:¬(i:Int)<s.sess.length:=by simpa using hge
   omega
  subst hi
  clear hK
  have w2:IntKind.u8.wrap (s.locks.length:Int)=s.locks.length:=zfm (by omega) (by omega)
  have hb:=zjN s s.sess.length
  have hle:((sb1 s s.sess.length).length+1≤2^47)=True:=eq_true (by omega)
  repeat'(first|refine zq (I hle (I t1 (I w2 @za0))) ?_|exact zd (I hle (I t1 (I w2 @za0)))|refine zaa ?_|refine zab (fun hb=> ?_) (fun hb=> ?_)|(refine And.intro ?_ ?_;exact zI)|refine And.intro (fun hg=> ?_) (fun hg=> ?_)|exact zC|fail)
  refine zaq (τ:=Nat) (fun i=>⟨[dd, .one (.ptr ⟨1,0,1⟩ 0),dd,dd, .one (.own ⟨4,1,1⟩ 0 (sb2 s i).length),dd,dd,dd,dd,dd,dd,dd,dd,dd,dd,dd,dd,dd,dd,dd,dd,dd,dd,dd,dd,dd,dd,dd,dd,dd,dd,dd,dd,dd,dd,dd,dd,dd,dd,dd,dd,dd,dd,dd,dd,dd,dd,dd,dd,dd,dd,dd,dd,dd,dd,dd,dd,dd,dd,dd,dd,dd,dd,dd,dd,al s.locks.length (locksE s.locks),ai s.locks.length,ai i,dd,dd,dd,dd,dd,dd,dd,dd,dd,dd,dd,dd,dd,dd,dd,dd,dd,dd,dd,dd,dd,dd,dd,dd,dd,dd,dd,dd,dd,dd,dd,dd,dd,dd,dd,dd,dd,dd,dd,dd,dd,dd,dd,dd,dd,dd,dd,dd,dd,dd,dd,dd,dd,dd,dd,dd,dd,dd,dd,dd,dd,dd,dd,dd,dd,dd,dd,dd,dd],[(1,{next:=2,l:=[some {e:=1,var:=true,fz:=false,sz:=0,cells:=[di s.time,di s.num,di s.token, .lent s.sess.length (sessE s.sess), .lent s.locks.length (locksE s.locks), .lent s.memos.length (memosE s.memos)]},none,none,none,none,none,none]}),(22,⟨2,[]⟩),(25,⟨2,[]⟩),(28,⟨2,[]⟩),(33,⟨2,[]⟩),(34,⟨2,[]⟩),(35,⟨2,[]⟩),(4,{next:=2,l:=[none,some {e:=1,var:=false,fz:=false,sz:=1,cells:=(bytesE (sb2 s i)).map C.d}]}),(6,⟨2,[]⟩),(47,⟨2,[]⟩),(50,⟨2,[]⟩),(53,⟨2,[]⟩),(54,⟨2,[]⟩),(55,⟨2,[]⟩),(62,⟨2,[]⟩),(8,⟨2,[]⟩),(9,⟨2,[]⟩),(74,⟨2,[]⟩),(82,⟨2,[]⟩),(85,⟨2,[]⟩),(90,⟨2,[]⟩),(91,⟨2,[]⟩),(92,⟨2,[]⟩),(103,⟨2,[]⟩),(104,⟨2,[]⟩)]⟩)
   (fun i=>i≤s.locks.length) (fun _=>()) (fun i=>s.locks.length - i) 0
   (Gh.canon [1,4] [8,9,74,82,85,90,91,92,103,104] [] (by simp only[zkM,List.length_append,List.length_singleton,zah,zau,zai,zak,zal,zam,List.set_cons_zero,List.set_cons_succ,and_true,true_and,Int.natCast_zero,Int.cast_ofNat_Int,D.v.injEq,Value.int.injEq];try(repeat'(first|rfl|omega|with_reducible apply And.intro))) rfl (by rw[zkM];simp only[bytesE,List.map_append];rfl)) (Nat.zero_le _) ?_
  intro i hi0 hF K hK
  refine zw ?_
  refine zab (fun hlt=> ?_) (fun hge=> ?_)
  ·have hi:i<s.locks.length:=by simpa using hlt
   have hat:=zaN hi
   have hw:=zar hi (by omega)
   obtain⟨q0,q1,q2,q3,q4,q5⟩:=ze3 h (List.getElem_mem hi)
   have wc:IntKind.u8.wrap s.locks[i].holder=s.locks[i].holder:=zfm (by omega) (by omega)
   have wl:IntKind.u8.wrap (s.locks[i].line.length:Int)=s.locks[i].line.length:=zfm (by omega) (by omega)
   have m1:=zgX s.locks[i].name (by omega)
   have m2:=ze2 s.locks[i].token (by omega)
   have hb:=zjO h i
   have tt:(textB s.locks[i].name).take (1+s.locks[i].name.size)=textB s.locks[i].name:=List.take_of_length_le (by rw[zdq];exact Nat.le_refl _)
   have hcc:CallOK Tryz.prog 30 [.f (al 5 [.sl (sb2 s i).length (bytesE (sb2 s i)), .sl (1+s.locks[i].name.size) (textB s.locks[i].name), .sl 1 (bytesE [s.locks[i].holder]), .sl 8 (bytesE (numB s.locks[i].token)), .sl 1 (bytesE [(s.locks[i].line.length:Int)])])] (fun x o=>x=[.one (.own 1 (sb2l s i s.locks[i] 0).length (bytesE (sb2l s i s.locks[i] 0)) false)]∧o=[]):=by
    have hc:=zjL [sb2 s i,textI s.locks[i].name,[s.locks[i].holder],numB s.locks[i].token,[(s.locks[i].line.length:Int)]] (by simp) (fun l hl=>by
     simp only[List.mem_cons,List.not_mem_nil,or_false]at hl
     rcases hl with rfl|rfl|rfl|rfl|rfl
     ·omega
     ·rw[zbT];omega
     ·simp
     ·rw[za7];decide
     ·simp)
    rw[show [sb2 s i,textI s.locks[i].name,[s.locks[i].holder],numB s.locks[i].token,[(s.locks[i].line.length:Int)]].flatten=sb2l s i s.locks[i] 0 from by rw[znL];simp[lk0]]at hc
    rw[←zbT,znM]
    exact hc
   repeat'(first|refine zq (I hat (I @List.cons_append.{0} (I @List.nil_append.{0} (I @zaf (I t8 (I t1 (I wc (I wl (I tt @za0))))))))) ?_|exact zd (I hat (I @List.cons_append.{0} (I @List.nil_append.{0} (I @zaf (I t8 (I t1 (I wc (I wl (I tt @za0)))))))))|refine zc (m1) ?_|refine zg (m1) ?_|refine zc (m2) ?_|refine zg (m2) ?_|refine zc (hcc) ?_|refine zg (hcc) ?_|refine zaa ?_|refine zab (fun hb=> ?_) (fun hb=> ?_)|(refine And.intro ?_ ?_;exact zI)|refine And.intro (fun hg=> ?_) (fun hg=> ?_)|exact zC|fail)
   refine zaq (τ:=Nat) (fun j=>⟨[dd, .one (.ptr ⟨1,0,1⟩ 0),dd,dd, .one (.own ⟨4,1,1⟩ 0 (sb2l s i s.locks[i] j).length),dd,dd,dd,dd,dd,dd,dd,dd,dd,dd,dd,dd,dd,dd,dd,dd,dd,dd,dd,dd,dd,dd,dd,dd,dd,dd,dd,dd,dd,dd,dd,dd,dd,dd,dd,dd,dd,dd,dd,dd,dd,dd,dd,dd,dd,dd,dd,dd,dd,dd,dd,dd,dd,dd,dd,dd,dd,dd,dd,dd,al s.locks.length (locksE s.locks),ai s.locks.length,ai i,dd,dd,dd,dd,dd,dd,dd,dd,dd,dd,dd,dd,dd,dd,dd,dd,dd,dd,dd,dd,dd,dd,dd,dd,dd,dd,asl s.locks[i].line.length (intsE s.locks[i].line),ai s.locks[i].line.length,ai j,dd,dd,dd,dd,dd,dd,dd,dd,dd,dd,dd,dd,dd,dd,dd,dd,dd,dd,dd,dd,dd,dd,dd,dd,dd,dd,dd,dd,dd,dd,dd,dd,dd,dd,dd,dd,dd,dd,dd,dd],[(1,{next:=2,l:=[some {e:=1,var:=true,fz:=false,sz:=0,cells:=[di s.time,di s.num,di s.token, .lent s.sess.length (sessE s.sess), .lent s.locks.length (locksE s.locks), .lent s.memos.length (memosE s.memos)]},none,none,none,none,none,none]}),(22,⟨2,[]⟩),(25,⟨2,[]⟩),(28,⟨2,[]⟩),(33,⟨2,[]⟩),(34,⟨2,[]⟩),(35,⟨2,[]⟩),(4,{next:=2,l:=[none,some {e:=1,var:=false,fz:=false,sz:=1,cells:=(bytesE (sb2l s i s.locks[i] j)).map C.d}]}),(6,⟨2,[]⟩),(47,⟨2,[]⟩),(50,⟨2,[]⟩),(53,⟨2,[]⟩),(54,⟨2,[]⟩),(55,⟨2,[]⟩),(62,⟨2,[]⟩),(8,⟨2,[]⟩),(9,⟨2,[]⟩),(74,⟨2,[]⟩),(82,⟨2,[]⟩),(85,⟨2,[]⟩),(90,⟨2,[]⟩),(91,⟨2,[]⟩),(92,⟨2,[]⟩),(103,⟨2,[]⟩),(104,⟨2,[]⟩)]⟩)
    (fun j=>j≤s.locks[i].line.length) (fun _=>()) (fun j=>s.locks[i].line.length - j) 0
    (Gh.canon [1,4] [] [] zK rfl rfl) (Nat.zero_le _) ?_
   intro j hj0 hF2 K2 hK2
   refine zw ?_
   refine zab (fun hlt2=> ?_) (fun hge2=> ?_)
   ·have hj:j<s.locks[i].line.length:=by simpa using hlt2
    have hat2:=zbE hj
    have hw2:=zar hj (by omega)
    have q6:=q5 _ (List.getElem_mem hj)
    have wd:IntKind.u8.wrap s.locks[i].line[j]=s.locks[i].line[j]:=zfm (by omega) (by omega)
    have hlj:(sb2l s i s.locks[i] j).length≤300:=by
     rw[sb2l,List.length_append,List.length_append,zjM,List.length_take];omega
    have hle3:((sb2l s i s.locks[i] j).length+1≤2^47)=True:=eq_true (by omega)
    have hsl3:(sb2l s i s.locks[i] (j+1)).length=(sb2l s i s.locks[i] j).length+1:=by rw[zi5 hj,List.length_append,List.length_singleton]
    repeat'(first|refine zq (I hat2 (I @List.cons_append.{0} (I @List.nil_append.{0} (I @zao (I t1 (I wd (I hle3 @za0))))))) ?_|exact zd (I hat2 (I @List.cons_append.{0} (I @List.nil_append.{0} (I @zao (I t1 (I wd (I hle3 @za0)))))))|refine zaa ?_|refine zab (fun hb=> ?_) (fun hb=> ?_)|(refine And.intro ?_ ?_;exact zI)|refine And.intro (fun hg=> ?_) (fun hg=> ?_)|exact zC|fail)
    exact hK2 _ (j+1) (Gh.canon [1,4] [] [] (by simp only[hw2,hsl3,zah,zau,zai,zak,zal,zam,List.set_cons_zero,List.set_cons_succ,and_true,true_and,Int.natCast_zero,Int.cast_ofNat_Int,D.v.injEq,Value.int.injEq];try(repeat'(first|rfl|omega|with_reducible apply And.intro))) rfl (by rw[zi5 hj];simp only[bytesE,List.map_append];rfl)) hj rfl (by omega)
   ·have hj:j=s.locks[i].line.length:=by
     have:¬(j:Int)<s.locks[i].line.length:=by simpa using hge2
     omega
    subst hj
    repeat'(first|refine zq0 ?_|exact zd0|refine zaa ?_|refine zab (fun hb=> ?_) (fun hb=> ?_)|(refine And.intro ?_ ?_;exact zI)|refine And.intro (fun hg=> ?_) (fun hg=> ?_)|exact zC|fail)
    exact hK _ (i+1) (Gh.canon [1,4] [] [] (by simp only[hw,zkO hi,zah,zau,zai,zak,zal,zam,List.set_cons_zero,List.set_cons_succ,and_true,true_and,Int.natCast_zero,Int.cast_ofNat_Int,D.v.injEq,Value.int.injEq];try(repeat'(first|rfl|omega|with_reducible apply And.intro))) rfl (by rw[zkO hi];rfl)) hi rfl (by omega)
  ·have hi:i=s.locks.length:=by
    have:¬(i:Int)<s.locks.length:=by simpa using hge
    omega
   subst hi
   clear hK
   have hml:=zkP h
   have w3:IntKind.u8.wrap (s.memos.length:Int)=s.memos.length:=zfm (by omega) (by omega)
   have hb2:=zjO h s.locks.length
   have hle2:((sb2 s s.locks.length).length+1≤2^47)=True:=eq_true (by omega)
   repeat'(first|refine zq (I hle2 (I t1 (I w3 @za0))) ?_|exact zd (I hle2 (I t1 (I w3 @za0)))|refine zaa ?_|refine zab (fun hb=> ?_) (fun hb=> ?_)|(refine And.intro ?_ ?_;exact zI)|refine And.intro (fun hg=> ?_) (fun hg=> ?_)|exact zC|fail)
   refine zaq (τ:=Nat) (fun i=>⟨[dd,dd,dd,dd, .one (.own ⟨4,1,1⟩ 0 (sb3 s i).length),dd,dd,dd,dd,dd,dd,dd,dd,dd,dd,dd,dd,dd,dd,dd,dd,dd,dd,dd,dd,dd,dd,dd,dd,dd,dd,dd,dd,dd,dd,dd,dd,dd,dd,dd,dd,dd,dd,dd,dd,dd,dd,dd,dd,dd,dd,dd,dd,dd,dd,dd,dd,dd,dd,dd,dd,dd,dd,dd,dd,dd,dd,dd,dd,dd,dd,dd,dd,dd,dd,dd,dd,dd,dd,dd,dd,dd,dd,dd,dd,dd,dd,dd,dd,dd,dd,dd,dd,dd,dd,dd,dd,dd,dd,dd,dd,dd,dd,dd,dd,dd,dd,dd,dd,dd,dd,dd,dd,dd,dd,al s.memos.length (memosE s.memos),ai s.memos.length,ai i,dd,dd,dd,dd,dd,dd,dd,dd,dd,dd,dd,dd,dd,dd,dd,dd,dd,dd,dd],[(1,⟨2,[]⟩),(22,⟨2,[]⟩),(25,⟨2,[]⟩),(28,⟨2,[]⟩),(33,⟨2,[]⟩),(34,⟨2,[]⟩),(35,⟨2,[]⟩),(4,{next:=2,l:=[none,some {e:=1,var:=false,fz:=false,sz:=1,cells:=(bytesE (sb3 s i)).map C.d}]}),(6,⟨2,[]⟩),(47,⟨2,[]⟩),(50,⟨2,[]⟩),(53,⟨2,[]⟩),(54,⟨2,[]⟩),(55,⟨2,[]⟩),(62,⟨2,[]⟩),(8,⟨2,[]⟩),(9,⟨2,[]⟩),(74,⟨2,[]⟩),(82,⟨2,[]⟩),(85,⟨2,[]⟩),(90,⟨2,[]⟩),(91,⟨2,[]⟩),(92,⟨2,[]⟩),(103,⟨2,[]⟩),(104,⟨2,[]⟩),(112,⟨2,[]⟩),(14,⟨2,[]⟩),(15,⟨2,[]⟩),(129,⟨2,[]⟩),(134,⟨2,[]⟩)]⟩)
    (fun i=>i≤s.memos.length) (fun _=>()) (fun i=>s.memos.length - i) 0
    (Gh.canon [4] [14,15,129,134] [] (by simp only[zkN,List.length_append,List.length_singleton,zah,zau,zai,zak,zal,zam,List.set_cons_zero,List.set_cons_succ,and_true,true_and,Int.natCast_zero,Int.cast_ofNat_Int,D.v.injEq,Value.int.injEq];try(repeat'(first|rfl|omega|with_reducible apply And.intro))) rfl (by rw[zkN];simp only[bytesE,List.map_append];rfl)) (Nat.zero_le _) ?_
   intro i hi0 hF K hK
   refine zw ?_
   refine zab (fun hlt=> ?_) (fun hge=> ?_)
   ·have hi:i<s.memos.length:=by simpa using hlt
    have hat:=zb2 hi
    have hw:=zar hi (by omega)
    have hma:=h.mok _ (List.getElem_mem hi)
    have hpa:=zi6 s.memos[i] hma
    have hb3:=zqw h i
    have hal:=zgk hma
    have hle3:((sb3 s i).length+(answerI s.memos[i]).length≤2^47)=True:=eq_true (by omega)
    have hsl3:(sb3 s (i+1)).length=(sb3 s i).length+(answerI s.memos[i]).length:=by rw[zkK hi,List.length_append]
    repeat'(first|refine zq (I hat (I @List.cons_append.{0} (I @List.nil_append.{0} (I @zaA (I @za0 (I hle3 @zaU)))))) ?_|exact zd (I hat (I @List.cons_append.{0} (I @List.nil_append.{0} (I @zaA (I @za0 (I hle3 @zaU))))))|refine zc (hpa) ?_|refine zg (hpa) ?_|refine zaa ?_|refine zab (fun hb=> ?_) (fun hb=> ?_)|(refine And.intro ?_ ?_;exact zI)|refine And.intro (fun hg=> ?_) (fun hg=> ?_)|exact zC|fail)
    exact hK _ (i+1) (Gh.canon [4] [] [] (by simp only[hw,hsl3,zah,zau,zai,zak,zal,zam,List.set_cons_zero,List.set_cons_succ,and_true,true_and,Int.natCast_zero,Int.cast_ofNat_Int,D.v.injEq,Value.int.injEq];try(repeat'(first|rfl|omega|with_reducible apply And.intro))) rfl (by rw[zkK hi];simp only[bytesE,List.map_append];rfl)) hi rfl (by omega)
   ·have hi:i=s.memos.length:=by
     have:¬(i:Int)<s.memos.length:=by simpa using hge
     omega
    subst hi
    repeat'(first|refine zq0 ?_|exact zd0|refine zaa ?_|refine zab (fun hb=> ?_) (fun hb=> ?_)|(refine And.intro ?_ ?_;exact zI)|refine And.intro (fun hg=> ?_) (fun hg=> ?_)|exact zC|fail)
    rfl
end Go.Proofs.YtbpmcjeeeiffhaaGreat
namespace Go.Proofs.YtbpmcjeeeiffhaaGreat
open Go.Pk
set_option maxRecDepth 100000
set_option linter.unusedSimpArgs false
set_option linter.unusedVariables false
abbrev rds (bs:List Int) (p:Int):List RO:=rdr bs.length (bytesE bs) p
abbrev fltS (e:Int):Value:=faultV 83 e
abbrev Rr (α:Type):=Except Int (α×Int)
def rOf {α:Type} (x:α×Int×Int):Rr α:=if x.2.2=0 then .ok (x.1,x.2.1)else .error x.2.2
theorem zdV {α:Type} {x:α×Int×Int} {y:α×Int} (h:rOf x= .ok y):x.2.2=0∧y=(x.1,x.2.1):=by
 unfold rOf at h
 split at h
 ·rename_i h0;cases h;exact⟨h0,rfl⟩
 ·cases h
theorem zh0 {α:Type} {x:α×Int×Int} {e:Int} (h:rOf x= .error e):x.2.2=e∧e≠0:=by
 unfold rOf at h
 split at h
 ·cases h
 ·rename_i h0;cases h;exact⟨rfl,h0⟩
def rNum (bs:List Int) (p:Int):Rr Int:=rOf (dNum bs p)
def rByte (bs:List Int) (p:Int):Rr Int:=rOf (dByte bs p)
def rName (bs:List Int) (p:Int):Rr ByteArray:=rOf (dText bs p 12)
def rMemo (bs:List Int) (p:Int):Rr Memo:=rOf (dAnswer bs p)
def rCount (bs:List Int) (p most:Int):Rr Int:=match rByte bs p with
 | .error e=> .error e
 | .ok (n,q)=>if n>most then .error 4 else .ok (n,q)
theorem zcB:CallOK Tryz.prog 93 [.f (ai 0)] (fun r o=>r=[]∧o=[]):=by
 refine zae zat mixed (T:=Ty) (n:=7) Tryz.func93 (c:=Tryz.f93.body.getD .skip) rfl Tryz.results93 Tryz.ntmps93 Tryz.call93 ?_
 simp only[Tryz.f93,Option.getD]
 repeat'(first|refine zq0 ?_|exact zd0|refine zaa ?_|refine zab (fun hb=> ?_) (fun hb=> ?_)|(refine And.intro ?_ ?_;exact zI)|refine And.intro (fun hg=> ?_) (fun hg=> ?_)|exact zC|fail)
theorem zeK (e:Int) (h:e≠0):CallPn Tryz.prog 93 [.f (ai e)] (fltS e):=by
 refine zb5 zat mixed (T:=Ty) (n:=7) Tryz.func93 (c:=Tryz.f93.body.getD .skip) rfl Tryz.ntmps93 Tryz.call93 ?_
 simp only[Tryz.f93,Option.getD]
 have h1:(e !=0)=true:=by simpa using h
 repeat'(first|(with_reducible first|refine zad _ _ ?_|refine zaE ?_|refine zaF ?_)|rw[zaB]|simp only[h1,zay,zY,Int.reduceEq,Int.reduceBEq,Int.reduceBNe,Nat.reduceSub,Nat.reduceEqDiff,Nat.reduceAdd,Nat.reduceMul,Nat.reduceLeDiff,Nat.reduceLT,Nat.reduceBEq,reduceCtorEq]|refine zaa ?_|refine zab (fun hb=> ?_) (fun hb=> ?_)|(refine And.intro ?_ ?_;exact zI)|refine And.intro (fun hg=> ?_) (fun hg=> ?_)|exact zC|fail)
theorem zdM (bs:List Int) (p:Int) (h:BsOk bs) (hp:i64 p) {y:Int×Int} (hy:rNum bs p= .ok y):
  CallOK Tryz.prog 42 [.obj (rds bs p)] (fun r o=>r=[ri y.1]∧o=[rds bs y.2]):=by
 obtain⟨h0,rfl⟩:=zdV hy
 refine zae zat mixed (T:=Ty) (n:=26) Tryz.func42 (c:=Tryz.f42.body.getD .skip) rfl Tryz.results42 Tryz.ntmps42 Tryz.call42 ?_
 simp only[Tryz.f42,Option.getD]
 have h1:=zgn bs p h hp
 rw[h0]at h1
 repeat'(first|refine zq0 ?_|exact zd0|refine zc (h1) ?_|refine zg (h1) ?_|refine zc (zcB) ?_|refine zg (zcB) ?_|refine zaa ?_|refine zab (fun hb=> ?_) (fun hb=> ?_)|(refine And.intro ?_ ?_;exact zI)|refine And.intro (fun hg=> ?_) (fun hg=> ?_)|exact zC|fail)
theorem zcV (bs:List Int) (p:Int) (h:BsOk bs) (hp:i64 p) {e:Int} (hy:rNum bs p= .error e):
  CallPn Tryz.prog 42 [.obj (rds bs p)] (fltS e):=by
 obtain⟨h0,h2⟩:=zh0 hy
 refine zb5 zat mixed (T:=Ty) (n:=26) Tryz.func42 (c:=Tryz.f42.body.getD .skip) rfl Tryz.ntmps42 Tryz.call42 ?_
 simp only[Tryz.f42,Option.getD]
 have h1:=zgn bs p h hp
 rw[h0]at h1
 repeat'(first|refine zq0 ?_|exact zd0|refine zc (h1) ?_|refine zg (h1) ?_|refine zaa ?_|refine zab (fun hb=> ?_) (fun hb=> ?_)|(refine And.intro ?_ ?_;exact zI)|refine And.intro (fun hg=> ?_) (fun hg=> ?_)|exact zC|fail)
 refine zfq (zeK e h2) rfl ?_
 simp only[zB,zay,Nat.reduceSub,Nat.reduceEqDiff,Nat.reduceAdd,Nat.reduceMul,Nat.reduceLeDiff,Nat.reduceLT,Nat.reduceBEq,reduceCtorEq]
theorem zeL (bs:List Int) (p:Int) (h:BsOk bs) (hp:i64 p) {y:Int×Int} (hy:rByte bs p= .ok y):
  CallOK Tryz.prog 85 [.obj (rds bs p)] (fun r o=>r=[ri y.1]∧o=[rds bs y.2]):=by
 obtain⟨h0,rfl⟩:=zdV hy
 refine zae zat mixed (T:=Ty) (n:=26) Tryz.func85 (c:=Tryz.f85.body.getD .skip) rfl Tryz.results85 Tryz.ntmps85 Tryz.call85 ?_
 simp only[Tryz.f85,Option.getD]
 have h1:=zdP bs p h hp
 rw[h0]at h1
 repeat'(first|refine zq0 ?_|exact zd0|refine zc (h1) ?_|refine zg (h1) ?_|refine zc (zcB) ?_|refine zg (zcB) ?_|refine zaa ?_|refine zab (fun hb=> ?_) (fun hb=> ?_)|(refine And.intro ?_ ?_;exact zI)|refine And.intro (fun hg=> ?_) (fun hg=> ?_)|exact zC|fail)
theorem zeM (bs:List Int) (p:Int) (h:BsOk bs) (hp:i64 p) {e:Int} (hy:rByte bs p= .error e):
  CallPn Tryz.prog 85 [.obj (rds bs p)] (fltS e):=by
 obtain⟨h0,h2⟩:=zh0 hy
 refine zb5 zat mixed (T:=Ty) (n:=26) Tryz.func85 (c:=Tryz.f85.body.getD .skip) rfl Tryz.ntmps85 Tryz.call85 ?_
 simp only[Tryz.f85,Option.getD]
 have h1:=zdP bs p h hp
 rw[h0]at h1
 repeat'(first|refine zq0 ?_|exact zd0|refine zc (h1) ?_|refine zg (h1) ?_|refine zaa ?_|refine zab (fun hb=> ?_) (fun hb=> ?_)|(refine And.intro ?_ ?_;exact zI)|refine And.intro (fun hg=> ?_) (fun hg=> ?_)|exact zC|fail)
 refine zfq (zeK e h2) rfl ?_
 simp only[zB,zay,Nat.reduceSub,Nat.reduceEqDiff,Nat.reduceAdd,Nat.reduceMul,Nat.reduceLeDiff,Nat.reduceLT,Nat.reduceBEq,reduceCtorEq]
theorem znJ (bs:List Int) (p:Int) (h:BsOk bs) (hp:i64 p) {y:ByteArray×Int} (hy:rName bs p= .ok y):
  CallOK Tryz.prog 136 [.obj (rds bs p)] (fun r o=>r=[.one (.d (sD y.1))]∧o=[rds bs y.2]):=by
 obtain⟨h0,rfl⟩:=zdV hy
 refine zae zat mixed (T:=Ty) (n:=26) Tryz.func136 (c:=Tryz.f136.body.getD .skip) rfl Tryz.results136 Tryz.ntmps136 Tryz.call136 ?_
 simp only[Tryz.f136,Option.getD]
 have h1:=zh2 bs p 12 h hp
 rw[h0]at h1
 repeat'(first|refine zq0 ?_|exact zd0|refine zc (h1) ?_|refine zg (h1) ?_|refine zc (zcB) ?_|refine zg (zcB) ?_|refine zaa ?_|refine zab (fun hb=> ?_) (fun hb=> ?_)|(refine And.intro ?_ ?_;exact zI)|refine And.intro (fun hg=> ?_) (fun hg=> ?_)|exact zC|fail)
theorem zlG (bs:List Int) (p:Int) (h:BsOk bs) (hp:i64 p) {e:Int} (hy:rName bs p= .error e):
  CallPn Tryz.prog 136 [.obj (rds bs p)] (fltS e):=by
 obtain⟨h0,h2⟩:=zh0 hy
 refine zb5 zat mixed (T:=Ty) (n:=26) Tryz.func136 (c:=Tryz.f136.body.getD .skip) rfl Tryz.ntmps136 Tryz.call136 ?_
 simp only[Tryz.f136,Option.getD]
 have h1:=zh2 bs p 12 h hp
 rw[h0]at h1
 repeat'(first|refine zq0 ?_|exact zd0|refine zc (h1) ?_|refine zg (h1) ?_|refine zaa ?_|refine zab (fun hb=> ?_) (fun hb=> ?_)|(refine And.intro ?_ ?_;exact zI)|refine And.intro (fun hg=> ?_) (fun hg=> ?_)|exact zC|fail)
 refine zfq (zeK e h2) rfl ?_
 simp only[zB,zay,Nat.reduceSub,Nat.reduceEqDiff,Nat.reduceAdd,Nat.reduceMul,Nat.reduceLeDiff,Nat.reduceLT,Nat.reduceBEq,reduceCtorEq]
theorem znK (bs:List Int) (p:Int) (h:BsOk bs) (hp:i64 p) {y:Memo×Int} (hy:rMemo bs p= .ok y):
  CallOK Tryz.prog 87 [.obj (rds bs p)] (fun r o=>r=[memoRD y.1]∧o=[rds bs y.2]):=by
 obtain⟨h0,rfl⟩:=zdV hy
 refine zae zat mixed (T:=Ty) (n:=32) Tryz.func87 (c:=Tryz.f87.body.getD .skip) rfl Tryz.results87 Tryz.ntmps87 Tryz.call87 ?_
 simp only[Tryz.f87,Option.getD]
 have h1:=zfh bs p h hp
 rw[h0]at h1
 repeat'(first|refine zq0 ?_|exact zd0|refine zc (h1) ?_|refine zg (h1) ?_|refine zc (zcB) ?_|refine zg (zcB) ?_|refine zaa ?_|refine zab (fun hb=> ?_) (fun hb=> ?_)|(refine And.intro ?_ ?_;exact zI)|refine And.intro (fun hg=> ?_) (fun hg=> ?_)|exact zC|fail)
 rfl
theorem zlH (bs:List Int) (p:Int) (h:BsOk bs) (hp:i64 p) {e:Int} (hy:rMemo bs p= .error e):
  CallPn Tryz.prog 87 [.obj (rds bs p)] (fltS e):=by
 obtain⟨h0,h2⟩:=zh0 hy
 refine zb5 zat mixed (T:=Ty) (n:=32) Tryz.func87 (c:=Tryz.f87.body.getD .skip) rfl Tryz.ntmps87 Tryz.call87 ?_
 simp only[Tryz.f87,Option.getD]
 have h1:=zfh bs p h hp
 rw[h0]at h1
 repeat'(first|refine zq0 ?_|exact zd0|refine zc (h1) ?_|refine zg (h1) ?_|refine zaa ?_|refine zab (fun hb=> ?_) (fun hb=> ?_)|(refine And.intro ?_ ?_;exact zI)|refine And.intro (fun hg=> ?_) (fun hg=> ?_)|exact zC|fail)
 refine zfq (zeK e h2) rfl ?_
 simp only[zB,zay,Nat.reduceSub,Nat.reduceEqDiff,Nat.reduceAdd,Nat.reduceMul,Nat.reduceLeDiff,Nat.reduceLT,Nat.reduceBEq,reduceCtorEq]
theorem zi3 {bs:List Int} {p most:Int} {y:Int×Int} (hy:rCount bs p most= .ok y):rByte bs p= .ok y∧y.1≤most:=by
 unfold rCount at hy
 cases hz:rByte bs p with
 |error e=>rw[hz]at hy;cases hy
 |ok z=>
  rw[hz]at hy
  simp only at hy
  split at hy
  ·cases hy
  ·rename_i hgt
   cases hy
   exact⟨rfl,by simp only;omega⟩
theorem zlI {bs:List Int} {p most:Int} {e:Int} (hy:rCount bs p most= .error e):rByte bs p= .error e∨∃z,rByte bs p= .ok z∧z.1>most∧e=4:=by
 unfold rCount at hy
 cases hz:rByte bs p with
 |error e=>rw[hz]at hy;cases hy;exact .inl rfl
 |ok z=>
  rw[hz]at hy
  simp only at hy
  split at hy
  ·rename_i hgt;cases hy;exact .inr ⟨z,rfl,hgt,rfl⟩
  ·cases hy
theorem zdN (bs:List Int) (p most:Int) (h:BsOk bs) (hp:i64 p) {y:Int×Int} (hy:rCount bs p most= .ok y):
  CallOK Tryz.prog 84 [.obj (rds bs p), .f (ai most)] (fun r o=>r=[ri y.1]∧o=[rds bs y.2]):=by
 obtain⟨hz,hle⟩:=zi3 hy
 have h1:=zeL bs p h hp hz
 have h2:decide (y.1>most)=false:=by simpa using hle
 refine zae zat mixed (T:=Ty) (n:=14) Tryz.func84 (c:=Tryz.f84.body.getD .skip) rfl Tryz.results84 Tryz.ntmps84 Tryz.call84 ?_
 simp only[Tryz.f84,Option.getD]
 repeat'(first|refine zq0 ?_|exact zd0|refine zaa ?_|refine zab (fun hb=> ?_) (fun hb=> ?_)|(refine And.intro ?_ ?_;exact zI)|refine And.intro (fun hg=> ?_) (fun hg=> ?_)|exact zC|fail)
 refine zaD (mv:= ?mv1) (lent:= ?le1) (x:= ?x1) (ass:= ?ass1) ?ha1 (h1) ?hr1 rfl ?hs1 ?hb1 ?hc1
 case ha1=>(try simp only[zY,Int.reduceEq,Int.reduceBEq,Int.reduceBNe,Nat.reduceSub,Nat.reduceEqDiff,Nat.reduceAdd,Nat.reduceMul,Nat.reduceLeDiff,Nat.reduceLT,Nat.reduceBEq,reduceCtorEq]);exact rfl
 case hr1=>simp[rosA,roA]
 case hs1=>simp[argsLe,aLe,csLe,cLe]
 case hb1=>(try simp only[zB,scM,Nat.reduceSub,Nat.reduceEqDiff,Nat.reduceAdd,Nat.reduceMul,Nat.reduceLeDiff,Nat.reduceLT,Nat.reduceBEq,reduceCtorEq]);repeat'(first|rfl|trivial|omega|with_reducible refine And.intro ?_ ?_)
 show aops _ _ _ _ _ _ _ _
 repeat'(first|refine zq h2 ?_|exact zd h2|refine zaa ?_|refine zab (fun hb=> ?_) (fun hb=> ?_)|(refine And.intro ?_ ?_;exact zI)|refine And.intro (fun hg=> ?_) (fun hg=> ?_)|exact zC|fail)
theorem zc5 (bs:List Int) (p most:Int) (h:BsOk bs) (hp:i64 p) {e:Int} (hy:rCount bs p most= .error e):
  CallPn Tryz.prog 84 [.obj (rds bs p), .f (ai most)] (fltS e):=by
 refine zb5 zat mixed (T:=Ty) (n:=14) Tryz.func84 (c:=Tryz.f84.body.getD .skip) rfl Tryz.ntmps84 Tryz.call84 ?_
 simp only[Tryz.f84,Option.getD]
 rcases zlI hy with hz|⟨z,hz,hgt,rfl⟩
 ·have h1:=zeM bs p h hp hz
  repeat'(first|refine zq0 ?_|exact zd0|refine zaa ?_|refine zab (fun hb=> ?_) (fun hb=> ?_)|(refine And.intro ?_ ?_;exact zI)|refine And.intro (fun hg=> ?_) (fun hg=> ?_)|exact zC|fail)
  refine zaP 0 (mv:= ?mv3) (lent:= ?le3) (l':=rds bs p) ?ha3 (h1) ?hb3 rfl ?hc3
  case ha3=>(try simp only[zY,Int.reduceEq,Int.reduceBEq,Int.reduceBNe,Nat.reduceSub,Nat.reduceEqDiff,Nat.reduceAdd,Nat.reduceMul,Nat.reduceLeDiff,Nat.reduceLT,Nat.reduceBEq,reduceCtorEq]);exact rfl
  case hb3=>(try simp only[zB,scM,Nat.reduceSub,Nat.reduceEqDiff,Nat.reduceAdd,Nat.reduceMul,Nat.reduceLeDiff,Nat.reduceLT,Nat.reduceBEq,reduceCtorEq]);repeat'(first|rfl|trivial|omega|with_reducible refine And.intro ?_ ?_)
  simp only[zB,zay,Nat.reduceSub,Nat.reduceEqDiff,Nat.reduceAdd,Nat.reduceMul,Nat.reduceLeDiff,Nat.reduceLT,Nat.reduceBEq,reduceCtorEq]
 ·have h1:=zeL bs p h hp hz
  have h2:decide (z.1>most)=true:=by simpa using hgt
  repeat'(first|refine zq0 ?_|exact zd0|refine zaa ?_|refine zab (fun hb=> ?_) (fun hb=> ?_)|(refine And.intro ?_ ?_;exact zI)|refine And.intro (fun hg=> ?_) (fun hg=> ?_)|exact zC|fail)
  refine zaD (mv:= ?mv2) (lent:= ?le2) (x:= ?x2) (ass:= ?ass2) ?ha2 (h1) ?hr2 rfl ?hs2 ?hb2 ?hc2
  case ha2=>(try simp only[zY,Int.reduceEq,Int.reduceBEq,Int.reduceBNe,Nat.reduceSub,Nat.reduceEqDiff,Nat.reduceAdd,Nat.reduceMul,Nat.reduceLeDiff,Nat.reduceLT,Nat.reduceBEq,reduceCtorEq]);exact rfl
  case hr2=>simp[rosA,roA]
  case hs2=>simp[argsLe,aLe,csLe,cLe]
  case hb2=>(try simp only[zB,scM,Nat.reduceSub,Nat.reduceEqDiff,Nat.reduceAdd,Nat.reduceMul,Nat.reduceLeDiff,Nat.reduceLT,Nat.reduceBEq,reduceCtorEq]);repeat'(first|rfl|trivial|omega|with_reducible refine And.intro ?_ ?_)
  show aops _ _ _ _ _ _ _ _
  repeat'(first|(with_reducible first|refine zad _ _ ?_|refine zaE ?_|refine zaF ?_)|rw[zaB]|simp only[h2,zay,zY,Int.reduceEq,Int.reduceBEq,Int.reduceBNe,Nat.reduceSub,Nat.reduceEqDiff,Nat.reduceAdd,Nat.reduceMul,Nat.reduceLeDiff,Nat.reduceLT,Nat.reduceBEq,reduceCtorEq]|refine zaa ?_|refine zab (fun hb=> ?_) (fun hb=> ?_)|(refine And.intro ?_ ?_;exact zI)|refine And.intro (fun hg=> ?_) (fun hg=> ?_)|exact zC|fail)
end Go.Proofs.YtbpmcjeeeiffhaaGreat
