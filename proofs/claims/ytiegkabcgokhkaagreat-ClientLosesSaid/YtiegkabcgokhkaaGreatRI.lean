import Derived.Test.YtiegkabcgokhkaaGreatRH
import Derived.Test.YtiegkabcgokhkaaGreatOF
namespace Go.Proofs.YtiegkabcgokhkaaGreat
open Go.Pk
set_option maxRecDepth 100000
set_option linter.unusedSimpArgs false
set_option linter.unusedVariables false
def textI (s:ByteArray):List Int:=(s.size:Int)::s.data.toList.map fun b=>(b.toNat:Int)
theorem zne (s:ByteArray):textB s=bytesE (textI s):=by simp[textB,textI,bytesE,textE]
theorem zb5 (s:ByteArray):(textI s).length=1+s.size:=by simp[textI,zcV,Nat.add_comm]
def grantI (g:Grant):List Int:=textI g.name++numB g.token
def grantsI (l:List Grant):List Int:=l.flatMap grantI
def replyI (r:Reply):List Int:=[r.code]++(numB r.session++([r.ahead,(r.held.length:Int)]++grantsI r.held))
def answerI (m:Memo):List Int:=[m.client]++(numB m.seq++replyI m.reply)
def cmdI (k n:Int) (s:ByteArray):List Int:=[k]++(numB n++textI s)
def reqI (r:Req):List Int:=[r.client]++(numB r.seq++cmdI r.kind r.session r.name)
def packAI (m:Memo):List Int:=[2]++answerI m
def packRI (r:Req):List Int:=[1]++reqI r
theorem zbb (n:Int):(numB n).length=8:=rfl
theorem ziV (g:Grant):(grantI g).length=9+g.name.size:=by simp[grantI,zb5,zbb];omega
theorem zcg:∀{l:List Grant} {k:Nat},(∀g∈l,g.name.size≤k)→(grantsI l).length≤l.length*(9+k)
 |[],k,_=>by simp[grantsI]
 |g::l,k,h=>by
  have h1:=zcg (l:=l) (k:=k) fun x hx=>h x (by simp[hx])
  have h2:=h g (by simp)
  rw[grantsI,List.flatMap_cons,List.length_append,List.length_cons,ziV,Nat.add_mul]
  unfold grantsI at h1
  omega
theorem znf (b:UInt8):byteI (b.toNat:Int):=⟨by omega,by have:=b.toNat_lt;omega⟩
theorem ziW (v:Int):byteI (IntKind.u8.wrap v):=by
 have e:IntKind.u8.wrap v=v % 256:=by
  unfold IntKind.wrap
  simp[IntKind.bits,IntKind.signed]
 rw[e];unfold byteI;omega
theorem zky (v:Int):∀x∈numB v,byteI x:=by
 intro x hx
 obtain⟨k,_,rfl⟩:=List.mem_map.1 hx
 exact ziW _
theorem zng (s:ByteArray) (h:s.size≤255):∀x∈textI s,byteI x:=by
 intro x hx
 rcases List.mem_cons.1 hx with rfl|hx
 ·exact⟨by omega,by omega⟩
 ·obtain⟨b,_,rfl⟩:=List.mem_map.1 hx
  exact znf b
theorem zkz (v:Int):IntKind.u8.wrap v=v % 256:=by
 unfold IntKind.wrap
 simp[IntKind.bits,IntKind.signed]
theorem zkA (v:Int) (k:Nat):byteAt v k=v / (2^(8*(7 - k))) % 256:=by
 rw[byteAt,zkz,Int.fdiv_eq_ediv_of_nonneg _ (Int.pow_nonneg (by decide))]
theorem znR (v:Int) (h:0≤v∧v<4611686018427387904):numV (numB v)=v:=by
 have e:numB v=[v / 72057594037927936 % 256,v / 281474976710656 % 256,v / 1099511627776 % 256,v / 4294967296 % 256,v / 16777216 % 256,v / 65536 % 256,v / 256 % 256,v % 256]:=by
  show List.map (byteAt v) [0,1,2,3,4,5,6,7]=_
  simp only[List.map_cons,List.map_nil,zkA]
  simp
 rw[e]
 simp only[numV,List.foldl_cons,List.foldl_nil]
 have d1:v / 65536=v / 256 / 256:=by omega
 have d2:v / 16777216=v / 65536 / 256:=by omega
 have d3:v / 4294967296=v / 16777216 / 256:=by omega
 have d4:v / 1099511627776=v / 4294967296 / 256:=by omega
 have d5:v / 281474976710656=v / 1099511627776 / 256:=by omega
 have d6:v / 72057594037927936=v / 281474976710656 / 256:=by omega
 have t0:0*256+v / 72057594037927936 % 256=v / 72057594037927936:=by omega
 have t1:v / 72057594037927936*256+v / 281474976710656 % 256=v / 281474976710656:=by rw[d6];omega
 have t2:v / 281474976710656*256+v / 1099511627776 % 256=v / 1099511627776:=by rw[d5];omega
 have t3:v / 1099511627776*256+v / 4294967296 % 256=v / 4294967296:=by rw[d4];omega
 have t4:v / 4294967296*256+v / 16777216 % 256=v / 16777216:=by rw[d3];omega
 have t5:v / 16777216*256+v / 65536 % 256=v / 65536:=by rw[d2];omega
 have t6:v / 65536*256+v / 256 % 256=v / 256:=by rw[d1];omega
 have t7:v / 256*256+v % 256=v:=by omega
 rw[t0,t1,t2,t3,t4,t5,t6,t7]
theorem zbp {bs a rest:List Int} {p:Nat} (h:bs.drop p=a++rest):bs.drop (p+a.length)=rest:=by
 rw[←List.drop_drop,h,List.drop_left]
theorem zhD {bs a rest:List Int} {p:Nat} (h:bs.drop p=a++rest) (ha:a≠[]):p+a.length≤bs.length:=by
 have:=congrArg List.length h
 rw[List.length_drop,List.length_append]at this
 have:0<a.length:=List.length_pos_iff.2 ha
 omega
theorem short_at {n p k:Nat} (h:p+k≤n):shortP n (p:Int) (k:Int)=false:=by
 unfold shortP
 simp;omega
theorem zdL {bs:List Int} {p:Nat} {x:Int} {rest:List Int} (h:bs.drop p=[x]++rest):dByte bs p=(x,((p+1:Nat):Int),0):=by
 have h1:=zhD h (by simp)
 simp only[List.length_singleton]at h1
 rw[dByte,if_neg (by rw[show(1:Int)=((1:Nat):Int) from rfl,short_at h1];simp),Int.toNat_natCast]
 have:bs.getD p 0=x:=by
  have:=congrArg (fun l=>l[0]?) h
  simp only[List.getElem?_drop,Nat.add_zero,List.singleton_append,List.getElem?_cons_zero]at this
  rw[List.getD_eq_getElem?_getD,this];rfl
 rw[this];simp
theorem zhE {bs:List Int} {p:Nat} {v:Int} {rest:List Int} (h:bs.drop p=numB v++rest) (hv:0≤v∧v<4611686018427387904):dNum bs p=(v,((p+8:Nat):Int),0):=by
 have h1:=zhD h (by intro h;have:=congrArg List.length h;rw[zbb]at this;simp at this)
 rw[zbb]at h1
 have h2:(bs.drop p).take 8=numB v:=by rw[h];exact List.take_left' (zbb v)
 rw[dNum,if_neg (by rw[show(8:Int)=((8:Nat):Int) from rfl,short_at h1];simp),Int.toNat_natCast,h2,znR v hv,if_pos hv.2];simp
theorem ziX (s:ByteArray):strOf (s.data.toList.map fun b=>(b.toNat:Int))=s:=by
 unfold strOf
 rw[List.map_map]
 have:(fun n:Int=>UInt8.ofNat n.toNat)∘(fun b:UInt8=>(b.toNat:Int))=id:=by
  funext b;simp
 rw[this,List.map_id]
theorem zlE {bs:List Int} {p:Nat} {s:ByteArray} {most:Int} {rest:List Int} (h:bs.drop p=textI s++rest) (hs:(s.size:Int)≤most):dText bs p most=(s,((p+(1+s.size):Nat):Int),0):=by
 have h1:=zhD h (by simp[textI])
 rw[zb5]at h1
 have hg:bs.getD p 0=(s.size:Int):=by
  have:=congrArg (fun l=>l[0]?) h
  simp only[List.getElem?_drop,Nat.add_zero,textI,List.cons_append,List.getElem?_cons_zero]at this
  rw[List.getD_eq_getElem?_getD,this];rfl
 have h2:(bs.drop (p+1)).take s.size=s.data.toList.map fun b=>(b.toNat:Int):=by
  rw[←List.drop_drop,h,textI,List.cons_append,List.drop_succ_cons,List.drop_zero]
  exact List.take_left' (by simp[zcV])
 have hs1:=short_at (n:=bs.length) (p:=p) (k:=1) (by omega)
 have hs2:=short_at (n:=bs.length) (p:=p+1) (k:=s.size) (by omega)
 rw[Int.natCast_add]at hs2
 simp only[Int.ofNat_one,Int.natCast_one]at hs1 hs2
 rw[dText,if_neg (by rw[hs1];simp),Int.toNat_natCast,hg,if_neg (by simpa using hs),if_neg (by rw[hs2];simp),Int.toNat_natCast,h2,ziX]
 simp;omega
theorem zfH {bs:List Int}:∀{l:List Grant} {p:Nat} {acc:List Grant} {rest:List Int},bs.drop p=grantsI l++rest→(∀g∈l,g.name.size≤12∧0≤g.token∧g.token<4611686018427387904)→
  dGrants bs l.length p acc=(acc++l,((p+(grantsI l).length:Nat):Int),0)
 |[],p,acc,rest,h,_=>by simp[dGrants,grantsI]
 |g::l,p,acc,rest,h,hg=>by
  obtain⟨g1,g2⟩:=hg g (by simp)
  have h1:bs.drop p=textI g.name++(numB g.token++(grantsI l++rest)):=by rw[h];simp[grantsI,grantI]
  have e1:=zlE h1 (most:=12) (by omega)
  have h2:=zbp h1
  rw[zb5]at h2
  have e2:=zhE h2 g2
  have h3:=zbp h2
  rw[zbb]at h3
  have ih:=zfH (l:=l) (acc:=acc++[g]) h3 fun x hx=>hg x (by simp[hx])
  rw[List.length_cons,dGrants,e1]
  simp only
  rw[e2]
  simp only[ne_eq,not_true_eq_false,if_false]
  rw[show({name:=g.name,token:=g.token}:Grant)=g from rfl,ih]
  have:(grantsI (g::l)).length=1+g.name.size+8+(grantsI l).length:=by simp[grantsI,grantI,zb5,zbb];omega
  rw[this,List.append_assoc]
  simp;omega
theorem za2 {r:Reply} (h:replyB r=true):(0≤r.code∧r.code≤12)∧(0≤r.session∧r.session≤2305843009213693952)∧(0≤r.ahead∧r.ahead≤3)∧r.held.length≤4∧checkP (grantQ r.held) 0 r.held=true:=by
 unfold replyB at h
 have hH:High=2305843009213693952:=rfl
 simp only[Bool.and_eq_true,Bool.not_eq_true',Bool.or_eq_false_iff,decide_eq_false_iff_not,hH]at h
 obtain⟨⟨h1,h2⟩,h3⟩:=h
 refine⟨by omega,by omega,by omega,by omega,h3⟩
theorem zfI {α:Type} {q:Nat→α→Bool}:∀{l:List α} {i:Nat},checkP q i l=true→∀x∈l,∃k,q k x=true
 |[],_,_,x,hx=>by cases hx
 |a::l,i,h,x,hx=>by
  rw[checkP]at h
  split at h
  ·rename_i hq
   rcases List.mem_cons.1 hx with rfl|hx
   ·exact⟨i,hq⟩
   ·exact zfI h x hx
  ·cases h
theorem za4 {r:Reply} (h:replyB r=true):∀g∈r.held,g.name.size≤12∧0≤g.token∧g.token<4611686018427387904:=by
 intro g hg
 obtain⟨k,hk⟩:=zfI (za2 h).2.2.2.2 g hg
 unfold grantQ at hk
 have hH:High=2305843009213693952:=rfl
 simp only[Bool.not_eq_true',Bool.or_eq_false_iff,decide_eq_false_iff_not,hH,Bool.not_eq_false']at hk
 obtain⟨⟨⟨h1,h2⟩,h3⟩,h4⟩:=hk
 have:nameP g.name=true:=by simpa using h1
 unfold nameP at this
 simp only[Bool.and_eq_true,decide_eq_true_eq]at this
 omega
theorem zkB {bs:List Int} {r:Reply} {p:Nat} {rest:List Int} (h:bs.drop p=replyI r++rest) (hr:replyB r=true):dReply bs p=(r,((p+(replyI r).length:Nat):Int),0):=by
 obtain⟨f1,f2,f3,f4,f5⟩:=za2 hr
 have h1:bs.drop p=[r.code]++(numB r.session++([r.ahead]++([(r.held.length:Int)]++(grantsI r.held++rest)))):=by rw[h];simp[replyI]
 have e1:=zdL h1
 have h2:=zbp h1
 have e2:=zhE (p:=p+[r.code].length) h2 (by omega)
 have h3:=zbp h2
 rw[zbb]at h3
 have e3:=zdL h3
 have h4:=zbp h3
 have e4:=zdL h4
 have h5:=zbp h4
 have e5:=zfH (acc:=[]) h5 (za4 hr)
 simp only[List.length_singleton]at e2 e3 e4 e5
 rw[dReply,e1]
 simp only[ne_eq,not_true_eq_false,if_false]
 rw[e2]
 simp only[ne_eq,not_true_eq_false,if_false]
 rw[e3]
 simp only[ne_eq,not_true_eq_false,if_false]
 rw[e4]
 simp only[ne_eq,not_true_eq_false,if_false,Int.toNat_natCast]
 rw[e5]
 simp only[ne_eq,not_true_eq_false,if_false,List.nil_append]
 rw[if_neg (by omega),show(⟨r.code,r.session,r.ahead,r.held⟩:Reply)=r from rfl,if_neg (by rw[hr];simp)]
 have:(replyI r).length=1+8+1+1+(grantsI r.held).length:=by simp[replyI,zbb];omega
 rw[this]
 simp;omega
theorem zaS {m:Memo} (h:answerB m=true):(0≤m.client∧m.client<8)∧(1≤m.seq∧m.seq≤2305843009213693952)∧replyB m.reply=true:=by
 unfold answerB at h
 have hH:High=2305843009213693952:=rfl
 simp only[Bool.and_eq_true,decide_eq_true_eq,hH]at h
 exact⟨by omega,by omega,h.2⟩
theorem ziY {bs:List Int} {m:Memo} {p:Nat} {rest:List Int} (h:bs.drop p=answerI m++rest) (hm:answerB m=true):dAnswer bs p=(m,((p+(answerI m).length:Nat):Int),0):=by
 obtain⟨f1,f2,f3⟩:=zaS hm
 have h1:bs.drop p=[m.client]++(numB m.seq++(replyI m.reply++rest)):=by rw[h];simp[answerI]
 have e1:=zdL h1
 have h2:=zbp h1
 have e2:=zhE (p:=p+[m.client].length) h2 (by omega)
 have h3:=zbp h2
 rw[zbb]at h3
 have e3:=zkB h3 f3
 simp only[List.length_singleton]at e2 e3
 rw[dAnswer,e1]
 simp only[ne_eq,not_true_eq_false,if_false]
 rw[e2]
 simp only[ne_eq,not_true_eq_false,if_false]
 rw[e3]
 simp only[ne_eq,not_true_eq_false,if_false]
 rw[show(⟨m.client,m.seq,m.reply⟩:Memo)=m from rfl,if_neg (by rw[hm];simp)]
 have:(answerI m).length=1+8+(replyI m.reply).length:=by simp[answerI,zbb];omega
 rw[this]
 simp;omega
end Go.Proofs.YtiegkabcgokhkaaGreat
