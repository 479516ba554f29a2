import Derived.Test.YtliimajkpggbhaaGreatPJ
namespace Go.Proofs.YtliimajkpggbhaaGreat
open Go.Pk
set_option maxRecDepth 100000
set_option linter.unusedSimpArgs false
set_option linter.unusedVariables false
def zzB (p:Pkt):List Int:=if p.kind=1 then zny p.req else if p.kind=2 then zck p.ans else if p.kind=3 then za4 [p.ballot]else if p.kind=4 then za4 [p.ballot]++zhT p.prom else if p.kind=5 then za4 [p.ballot,p.slot]++zhq p.bat else if p.kind=6 then za4 [p.ballot,p.slot]++zhq p.bat else if p.kind=7 then za4 [p.ballot,p.done]else if p.kind=8 then za4 [p.done]else snI p.snap
def pkI (p:Pkt):List Int:=[p.kind]++zzB p
theorem zjI {p:Pkt} (h:ziA p=true):okP p=true∧zcB (zyf p)=true:=by
 unfold ziA at h
 simpa using h
theorem ze0 {v a:Int} (h:inW v a=true) (ha:0≤a):0≤v∧v<4611686018427387904:=by
 simp only[inW,Bool.and_eq_true,decide_eq_true_eq]at h
 omega
theorem zyb {a:Int} (h:0≤a∧a<4611686018427387904):∀v∈[a],0≤v∧v<4611686018427387904:=fun v hv=>by
 simp only[List.mem_cons,List.not_mem_nil,or_false]at hv
 rw[hv];exact h
theorem zyc {a b:Int} (h:0≤a∧a<4611686018427387904) (h2:0≤b∧b<4611686018427387904):∀v∈[a,b],0≤v∧v<4611686018427387904:=fun v hv=>by
 simp only[List.mem_cons,List.not_mem_nil,or_false]at hv
 rcases hv with rfl|rfl<;>assumption
theorem zyd {s:Sn} (h:zbq s=true):(snI s).length≤1200:=by
 obtain⟨_,_,_,hr⟩:=zgF h
 have h1:=zoh hr s.st.memos.length
 have h2:=zlq hr
 unfold snI zg9
 simp only[List.length_append,zb4]
 omega
theorem ztQ {p:Prom} (m:MayP p):(zhT p).length≤1321:=by
 have:=ztS (fun v hv=>(m.votes v hv).2.2.2.2) p.votes.length
 have:=m.len
 unfold zhT
 omega
theorem znB {p:Pkt} (h:ziA p=true):(zzB p).length≤1400:=by
 have ho:=(zjI h).1
 obtain⟨kind,ballot,slot,done,req,ans,bat,prom,snap⟩:=p
 rcases kinds kind with rfl|rfl|rfl|rfl|rfl|rfl|rfl|rfl|rfl|⟨k1,k2,k3,k4,k5,k6,k7,k8,k9⟩
 ·have:=zlY (show Req.may req=true from ho)
  show(zny req).length≤_
  omega
 ·have:=zgt (show answerB ans=true from ho)
  show(zck ans).length≤_
  omega
 ·show(za4 [ballot]).length≤_
  rw[zci];simp
 ·have ho:(inW ballot 0&&Prom.may prom)=true:=ho
  rw[Bool.and_eq_true]at ho
  have:=ztQ (zp2 ho.2)
  show(za4 [ballot]++zhT prom).length≤_
  rw[List.length_append,zci];simp only[List.length_singleton];omega
 ·have ho:(inW ballot 0&&inW slot 1&&Batch.may bat)=true:=ho
  rw[Bool.and_eq_true]at ho
  have:=ziz ho.2
  show(za4 [ballot,slot]++zhq bat).length≤_
  rw[List.length_append,zci];simp only[List.length_cons,List.length_nil];omega
 ·have ho:(inW ballot 0&&inW slot 1&&Batch.may bat)=true:=ho
  rw[Bool.and_eq_true]at ho
  have:=ziz ho.2
  show(za4 [ballot,slot]++zhq bat).length≤_
  rw[List.length_append,zci];simp only[List.length_cons,List.length_nil];omega
 ·show(za4 [ballot,done]).length≤_
  rw[zci];simp
 ·show(za4 [done]).length≤_
  rw[zci];simp
 ·have:=zyd (show zbq snap=true from ho)
  show(snI snap).length≤_
  omega
 ·simp only[beq_eq_false_iff_ne,ne_eq]at k1 k2 k3 k4 k5 k6 k7 k8 k9
  unfold okP at ho
  simp only[k1,k2,k3,k4,k5,k6,k7,k8,k9,if_false]at ho
  cases ho
theorem put_eq (k:Int) (l:List Int):[RF.one (.own 1 (1+l.length) (uD k::zad l) false),ri 0]=[RF.one (.own 1 ([k]++l).length (zad ([k]++l)) false),ri 0]:=by
 simp[zad,Nat.add_comm]
theorem zoE (k:Int) (a b:List Int):[RF.one (.own 1 (1+(a.length+b.length)) (uD k::(zad a++zad b)) false),ri 0]=[RF.one (.own 1 ([k]++(a++b)).length (zad ([k]++(a++b))) false),ri 0]:=by
 simp[zad,Nat.add_comm]
theorem zdA (p:Pkt) (hp:p.ok) (h:ziA p=false):CallOK Tryz.prog 11 [.f (.agg p.lent)] (fun r o=>r=[.one (.d (.v ze4)),ri 1]∧o=[]):=by
 refine zh Tryz.func11 Tryz.results11 Tryz.ntmps11 Tryz.call11 ?_
 simp only[Tryz.f11,Option.getD]
 have hm:=zct p hp
 rw[h]at hm
 repeat'(first|exact zC|refine zq0 ?_|refine zx (hm) ?_|(apply zaa<;>intro hb)|(apply I;exact zI)|(apply I<;>intro hg))
set_option maxHeartbeats 4000000 in
theorem znC (p:Pkt) (hp:p.ok) (h:ziA p=true):CallOK Tryz.prog 11 [.f (.agg p.lent)] (fun r o=>r=[.one (.own 1 (pkI p).length (zad (pkI p)) false),ri 0]∧o=[]):=by
 refine zh Tryz.func11 Tryz.results11 Tryz.ntmps11 Tryz.call11 ?_
 simp only[Tryz.f11,Option.getD]
 have hm:=zct p hp
 rw[h]at hm
 have ho:=(zjI h).1
 have hl:=znB h
 obtain⟨kind,ballot,slot,done,req,ans,bat,prom,snap⟩:=p
 have t1:∀x:Int,toDs (sub 0 1 1 [di x])=some [iD x]:=fun _=>rfl
 have t2:∀x y:Int,toDs (sub 0 2 1 [di x,di y])=some [iD x,iD y]:=fun _ _=>rfl
 rcases kinds kind with rfl|rfl|rfl|rfl|rfl|rfl|rfl|rfl|rfl|⟨k1,k2,k3,k4,k5,k6,k7,k8,k9⟩
 ·have hc:=znz req ho
  have w:IntKind.u8.wrap 1=1:=zdF (by omega) (by omega)
  have hle:(1+(zny req).length≤2^47)=True:=eq_true (by have hl:(zny req).length≤1400:=hl;omega)
  repeat'(first|exact zC|refine zq (I t1 (I t2 (I w (I hle (I @zav @List.length_map.{0,0}))))) ?_|refine zx (hm) ?_|refine zx (hc) ?_|(apply zaa<;>intro hb)|(apply I;exact zI)|(apply I<;>intro hg))
  exact put_eq _ _
 ·have hc:=zh4 ans ho
  have w:IntKind.u8.wrap 2=2:=zdF (by omega) (by omega)
  have hle:(1+(zck ans).length≤2^47)=True:=eq_true (by have hl:(zck ans).length≤1400:=hl;omega)
  repeat'(first|exact zC|refine zq (I t1 (I t2 (I w (I hle (I @zav @List.length_map.{0,0}))))) ?_|refine zx (hm) ?_|refine zx (hc) ?_|(apply zaa<;>intro hb)|(apply I;exact zI)|(apply I<;>intro hg))
  exact put_eq _ _
 ·have hc:=zfG [ballot] (by simp) (zyb (ze0 (show inW ballot 0=true from ho) (by omega)))
  have w:IntKind.u8.wrap 3=3:=zdF (by omega) (by omega)
  have hle:(1+(za4 [ballot]).length≤2^47)=True:=eq_true (by have hl:(za4 [ballot]).length≤1400:=hl;omega)
  repeat'(first|exact zC|refine zq (I t1 (I t2 (I w (I hle (I @zav @List.length_map.{0,0}))))) ?_|refine zx (hm) ?_|refine zx (hc) ?_|(apply zaa<;>intro hb)|(apply I;exact zI)|(apply I<;>intro hg))
  exact put_eq _ _
 ·have ho:(inW ballot 0&&Prom.may prom)=true:=ho
  rw[Bool.and_eq_true]at ho
  have hc:=zfG [ballot] (by simp) (zyb (ze0 ho.1 (by omega)))
  have hc2:=zq5 prom (zp2 ho.2)
  have w:IntKind.u8.wrap 4=4:=zdF (by omega) (by omega)
  have hle:(1+((za4 [ballot]).length+(zhT prom).length)≤2^47)=True:=eq_true (by have hl:(za4 [ballot]++zhT prom).length≤1400:=hl;rw[List.length_append]at hl;omega)
  have hle2:((za4 [ballot]).length+(zhT prom).length≤2^47)=True:=eq_true (by have hl:(za4 [ballot]++zhT prom).length≤1400:=hl;rw[List.length_append]at hl;omega)
  have tk:(zad (za4 [ballot])++zad (zhT prom)).take ((za4 [ballot]).length+(zhT prom).length)=zad (za4 [ballot])++zad (zhT prom):=List.take_of_length_le (by simp)
  repeat'(first|exact zC|refine zq (I t1 (I t2 (I w (I hle (I hle2 (I tk (I @zav @List.length_map.{0,0}))))))) ?_|refine zx (hm) ?_|refine zx (hc) ?_|refine zx (hc2) ?_|(apply zaa<;>intro hb)|(apply I;exact zI)|(apply I<;>intro hg))
  exact zoE _ _ _
 ·have ho:(inW ballot 0&&inW slot 1&&Batch.may bat)=true:=ho
  rw[Bool.and_eq_true,Bool.and_eq_true]at ho
  have hc:=zfG [ballot,slot] (by simp) (zyc (ze0 ho.1.1 (by omega)) (ze0 ho.1.2 (by omega)))
  have hc2:=zjG bat ho.2
  have w:IntKind.u8.wrap 5=5:=zdF (by omega) (by omega)
  have hle:(1+((za4 [ballot,slot]).length+(zhq bat).length)≤2^47)=True:=eq_true (by have hl:(za4 [ballot,slot]++zhq bat).length≤1400:=hl;rw[List.length_append]at hl;omega)
  have hle2:((za4 [ballot,slot]).length+(zhq bat).length≤2^47)=True:=eq_true (by have hl:(za4 [ballot,slot]++zhq bat).length≤1400:=hl;rw[List.length_append]at hl;omega)
  have tk:(zad (za4 [ballot,slot])++zad (zhq bat)).take ((za4 [ballot,slot]).length+(zhq bat).length)=zad (za4 [ballot,slot])++zad (zhq bat):=List.take_of_length_le (by simp)
  repeat'(first|exact zC|refine zq (I t1 (I t2 (I w (I hle (I hle2 (I tk (I @zav @List.length_map.{0,0}))))))) ?_|refine zx (hm) ?_|refine zx (hc) ?_|refine zx (hc2) ?_|(apply zaa<;>intro hb)|(apply I;exact zI)|(apply I<;>intro hg))
  exact zoE _ _ _
 ·have ho:(inW ballot 0&&inW slot 1&&Batch.may bat)=true:=ho
  rw[Bool.and_eq_true,Bool.and_eq_true]at ho
  have hc:=zfG [ballot,slot] (by simp) (zyc (ze0 ho.1.1 (by omega)) (ze0 ho.1.2 (by omega)))
  have hc2:=zjG bat ho.2
  have w:IntKind.u8.wrap 6=6:=zdF (by omega) (by omega)
  have hle:(1+((za4 [ballot,slot]).length+(zhq bat).length)≤2^47)=True:=eq_true (by have hl:(za4 [ballot,slot]++zhq bat).length≤1400:=hl;rw[List.length_append]at hl;omega)
  have hle2:((za4 [ballot,slot]).length+(zhq bat).length≤2^47)=True:=eq_true (by have hl:(za4 [ballot,slot]++zhq bat).length≤1400:=hl;rw[List.length_append]at hl;omega)
  have tk:(zad (za4 [ballot,slot])++zad (zhq bat)).take ((za4 [ballot,slot]).length+(zhq bat).length)=zad (za4 [ballot,slot])++zad (zhq bat):=List.take_of_length_le (by simp)
  repeat'(first|exact zC|refine zq (I t1 (I t2 (I w (I hle (I hle2 (I tk (I @zav @List.length_map.{0,0}))))))) ?_|refine zx (hm) ?_|refine zx (hc) ?_|refine zx (hc2) ?_|(apply zaa<;>intro hb)|(apply I;exact zI)|(apply I<;>intro hg))
  exact zoE _ _ _
 ·have ho:(inW ballot 0&&inW done 0)=true:=ho
  rw[Bool.and_eq_true]at ho
  have hc:=zfG [ballot,done] (by simp) (zyc (ze0 ho.1 (by omega)) (ze0 ho.2 (by omega)))
  have w:IntKind.u8.wrap 7=7:=zdF (by omega) (by omega)
  have hle:(1+(za4 [ballot,done]).length≤2^47)=True:=eq_true (by have hl:(za4 [ballot,done]).length≤1400:=hl;omega)
  repeat'(first|exact zC|refine zq (I t1 (I t2 (I w (I hle (I @zav @List.length_map.{0,0}))))) ?_|refine zx (hm) ?_|refine zx (hc) ?_|(apply zaa<;>intro hb)|(apply I;exact zI)|(apply I<;>intro hg))
  exact put_eq _ _
 ·have hc:=zfG [done] (by simp) (zyb (ze0 (show inW done 0=true from ho) (by omega)))
  have w:IntKind.u8.wrap 8=8:=zdF (by omega) (by omega)
  have hle:(1+(za4 [done]).length≤2^47)=True:=eq_true (by have hl:(za4 [done]).length≤1400:=hl;omega)
  repeat'(first|exact zC|refine zq (I t1 (I t2 (I w (I hle (I @zav @List.length_map.{0,0}))))) ?_|refine zx (hm) ?_|refine zx (hc) ?_|(apply zaa<;>intro hb)|(apply I;exact zI)|(apply I<;>intro hg))
  exact put_eq _ _
 ·have hc:=zp7 snap ho
  have w:IntKind.u8.wrap 9=9:=zdF (by omega) (by omega)
  have hle:(1+(snI snap).length≤2^47)=True:=eq_true (by have hl:(snI snap).length≤1400:=hl;omega)
  repeat'(first|exact zC|refine zq (I t1 (I t2 (I w (I hle (I @zav @List.length_map.{0,0}))))) ?_|refine zx (hm) ?_|refine zx (hc) ?_|(apply zaa<;>intro hb)|(apply I;exact zI)|(apply I<;>intro hg))
  exact put_eq _ _
 ·simp only[beq_eq_false_iff_ne,ne_eq]at k1 k2 k3 k4 k5 k6 k7 k8 k9
  unfold okP at ho
  simp only[k1,k2,k3,k4,k5,k6,k7,k8,k9,if_false]at ho
  cases ho
theorem zlW {bs:List Int} {p:Int} {y:Int×Int} (h:BsOk bs) (hy:zbn bs p= .ok y):0≤y.1∧y.1<4611686018427387904:=by
 obtain⟨_,rfl⟩:=zdu hy
 unfold zfZ
 split
 ·simp
 ·split
  ·rename_i h2
   exact⟨(zhK fun c hc=>h.b _ (List.mem_of_mem_drop (List.mem_of_mem_take hc))).1,h2⟩
  ·simp
theorem ztK {bs:List Int} {p:Int} (h:BsOk bs) (hp:i64 p) {y:Int×Int} (hy:zbv bs p= .ok y):CallOK Tryz.prog 138 [.f (asl bs.length (zad bs)), .f (ai p)] (fun r o=>r=[ri y.1,ri y.2,ri 0]∧o=[]):=by
 obtain⟨h0,rfl⟩:=zdu hy
 have:=zds bs p h hp
 rwa[h0]at this
theorem zvP {bs:List Int} {p:Int} (h:BsOk bs) (hp:i64 p) {e:Int} (hy:zbv bs p= .error e):CallOK Tryz.prog 138 [.f (asl bs.length (zad bs)), .f (ai p)] (fun r o=>r=[ri (zbT bs p).1,ri (zbT bs p).2.1,ri e]∧o=[])∧(e !=0)=true:=by
 obtain⟨h0,h2⟩:=zbX hy
 have:=zds bs p h hp
 rw[h0]at this
 exact⟨this,by simpa using h2⟩
theorem zAa {bs:List Int} {p:Int} (h:BsOk bs) (hp:i64 p) {y:Int×Int} (hy:zbn bs p= .ok y):CallOK Tryz.prog 139 [.f (asl bs.length (zad bs)), .f (ai p)] (fun r o=>r=[ri y.1,ri y.2,ri 0]∧o=[]):=by
 obtain⟨h0,rfl⟩:=zdu hy
 have:=zeU bs p h hp
 rwa[h0]at this
theorem zAb {bs:List Int} {p:Int} (h:BsOk bs) (hp:i64 p) {e:Int} (hy:zbn bs p= .error e):CallOK Tryz.prog 139 [.f (asl bs.length (zad bs)), .f (ai p)] (fun r o=>r=[ri (zfZ bs p).1,ri (zfZ bs p).2.1,ri e]∧o=[])∧(e !=0)=true:=by
 obtain⟨h0,h2⟩:=zbX hy
 have:=zeU bs p h hp
 rw[h0]at this
 exact⟨this,by simpa using h2⟩
theorem zAc {bs:List Int} {p:Int} (h:BsOk bs) (hp:i64 p) {y:ByteArray×Int} (hy:zgH bs p= .ok y):CallOK Tryz.prog 175 [.f (asl bs.length (zad bs)), .f (ai p), .f (ai 12)] (fun r o=>r=[.one (.d (sD y.1)),ri y.2,ri 0]∧o=[]):=by
 obtain⟨h0,rfl⟩:=zdu hy
 have:=zha bs p 12 h hp
 rwa[h0]at this
theorem zAd {bs:List Int} {p:Int} (h:BsOk bs) (hp:i64 p) {e:Int} (hy:zgH bs p= .error e):CallOK Tryz.prog 175 [.f (asl bs.length (zad bs)), .f (ai p), .f (ai 12)] (fun r o=>r=[.one (.d (sD (zcE bs p 12).1)),ri (zcE bs p 12).2.1,ri e]∧o=[])∧(e !=0)=true:=by
 obtain⟨h0,h2⟩:=zbX hy
 have:=zha bs p 12 h hp
 rw[h0]at this
 exact⟨this,by simpa using h2⟩
abbrev Cm:=Int×Int×ByteArray
def dOf {α:Type} (z:α) (r:Rr α):α×Int×Int:=match r with
 | .ok y=>(y.1,y.2,0)
 | .error e=>(z,0,e)
def zrh (bs:List Int) (p:Int):Rr Cm:=match zbv bs p with
 | .error e=> .error e
 | .ok k=>match zbn bs k.2 with
  | .error e=> .error e
  | .ok n=>match zgH bs n.2 with
   | .error e=> .error e
   | .ok s=>if zlM k.1 n.1 s.1=true then .ok ((k.1,n.1,s.1),s.2)else .error 4
abbrev zC9 (c:Cm):RF:= .agg [.d (iD c.1), .d (iD c.2.1), .d (sD c.2.2)]
abbrev cm0:Cm:=(0,0, .empty)
theorem ztL (bs:List Int) (p:Int) (h:BsOk bs) (hp:i64 p):CallOK Tryz.prog 140 [.f (asl bs.length (zad bs)), .f (ai p)] (fun r o=>r=[zC9 (dOf cm0 (zrh bs p)).1,ri (dOf cm0 (zrh bs p)).2.1,ri (dOf cm0 (zrh bs p)).2.2]∧o=[]):=by
 refine zh Tryz.func140 Tryz.results140 Tryz.ntmps140 Tryz.call140 ?_
 simp only[Tryz.f140,Option.getD]
 unfold zrh
 cases e1:zbv bs p with
 |error e=>
  obtain⟨h1,hq⟩:=zvP h hp e1
  simp only[dOf]
  repeat'(first|exact zC|refine zq hq ?_|refine zx (h1) ?_|(apply zaa<;>intro hb)|(apply I;exact zI)|(apply I<;>intro hg))
 |ok k=>
 have h1:=ztK h hp e1
 have p1:=zba h e1
 simp only
 cases e2:zbn bs k.2 with
 |error e=>
  obtain⟨h2,hq⟩:=zAb h p1 e2
  simp only[dOf]
  repeat'(first|exact zC|refine zq hq ?_|refine zx (h1) ?_|refine zx (h2) ?_|(apply zaa<;>intro hb)|(apply I;exact zI)|(apply I<;>intro hg))
 |ok n=>
 have h2:=zAa h p1 e2
 have p2:=zas h e2
 simp only
 cases e3:zgH bs n.2 with
 |error e=>
  obtain⟨h3,hq⟩:=zAd h p2 e3
  simp only[dOf]
  repeat'(first|exact zC|refine zq hq ?_|refine zx (h1) ?_|refine zx (h2) ?_|refine zx (h3) ?_|(apply zaa<;>intro hb)|(apply I;exact zI)|(apply I<;>intro hg))
 |ok s=>
 have h3:=zAc h p2 e3
 have hs:s.1.size<2^62:=by have:=zj5 e3;have:=h.l;omega
 have h4:=zpP k.1 n.1 s.1 hs
 simp only
 cases hm:zlM k.1 n.1 s.1
 ·rw[hm]at h4
  rw[if_neg (by simp)]
  simp only[dOf]
  repeat'(first|exact zC|refine zq0 ?_|refine zx (h1) ?_|refine zx (h2) ?_|refine zx (h3) ?_|refine zx (h4) ?_|(apply zaa<;>intro hb)|(apply I;exact zI)|(apply I<;>intro hg))
 ·rw[hm]at h4
  rw[if_pos rfl]
  simp only[dOf]
  repeat'(first|exact zC|refine zq0 ?_|refine zx (h1) ?_|refine zx (h2) ?_|refine zx (h3) ?_|refine zx (h4) ?_|(apply zaa<;>intro hb)|(apply I;exact zI)|(apply I<;>intro hg))
def zlX (bs:List Int) (p:Int):Rr Req:=match zbv bs p with
 | .error e=> .error e
 | .ok k=>match zbn bs k.2 with
  | .error e=> .error e
  | .ok n=>match zrh bs n.2 with
   | .error e=> .error e
   | .ok c=>if Req.may ⟨k.1,n.1,c.1.1,c.1.2.1,c.1.2.2⟩=true then .ok (⟨k.1,n.1,c.1.1,c.1.2.1,c.1.2.2⟩,c.2)else .error 4
abbrev zAe (r:Req):RF:= .agg (r.enc.map RO.d)
abbrev zzR:Req:=⟨0,0,0,0, .empty⟩
theorem zkR {bs:List Int} {p:Int} {y:Cm×Int} (h:BsOk bs) (hy:zrh bs p= .ok y):i64 y.2∧zlM y.1.1 y.1.2.1 y.1.2.2=true:=by
 unfold zrh at hy
 cases e1:zbv bs p with
 |error x=>rw[e1]at hy;cases hy
 |ok k=>
 rw[e1]at hy;simp only at hy
 cases e2:zbn bs k.2 with
 |error x=>rw[e2]at hy;cases hy
 |ok n=>
 rw[e2]at hy;simp only at hy
 cases e3:zgH bs n.2 with
 |error x=>rw[e3]at hy;cases hy
 |ok s=>
 rw[e3]at hy;simp only at hy
 split at hy
 ·rename_i hm
  cases hy
  exact⟨zhx h e3,hm⟩
 ·cases hy
theorem zpU {bs:List Int} {p e:Int} (hy:zrh bs p= .error e):(e !=0)=true:=by
 unfold zrh at hy
 cases e1:zbv bs p with
 |error x=>rw[e1]at hy;cases hy;simpa using(zbX e1).2
 |ok k=>
 rw[e1]at hy;simp only at hy
 cases e2:zbn bs k.2 with
 |error x=>rw[e2]at hy;cases hy;simpa using(zbX e2).2
 |ok n=>
 rw[e2]at hy;simp only at hy
 cases e3:zgH bs n.2 with
 |error x=>rw[e3]at hy;cases hy;simpa using(zbX e3).2
 |ok s=>
 rw[e3]at hy;simp only at hy
 split at hy
 ·cases hy
 ·cases hy;rfl
theorem znv (bs:List Int) (p:Int) (h:BsOk bs) (hp:i64 p):CallOK Tryz.prog 90 [.f (asl bs.length (zad bs)), .f (ai p)] (fun r o=>r=[zAe (dOf zzR (zlX bs p)).1,ri (dOf zzR (zlX bs p)).2.1,ri (dOf zzR (zlX bs p)).2.2]∧o=[]):=by
 refine zh Tryz.func90 Tryz.results90 Tryz.ntmps90 Tryz.call90 ?_
 simp only[Tryz.f90,Option.getD]
 unfold zlX
 cases e1:zbv bs p with
 |error e=>
  obtain⟨h1,hq⟩:=zvP h hp e1
  simp only[dOf]
  repeat'(first|exact zC|refine zq hq ?_|refine zx (h1) ?_|(apply zaa<;>intro hb)|(apply I;exact zI)|(apply I<;>intro hg))
  rfl
 |ok k=>
 have h1:=ztK h hp e1
 have p1:=zba h e1
 simp only
 cases e2:zbn bs k.2 with
 |error e=>
  obtain⟨h2,hq⟩:=zAb h p1 e2
  simp only[dOf]
  repeat'(first|exact zC|refine zq hq ?_|refine zx (h1) ?_|refine zx (h2) ?_|(apply zaa<;>intro hb)|(apply I;exact zI)|(apply I<;>intro hg))
  rfl
 |ok n=>
 have h2:=zAa h p1 e2
 have p2:=zas h e2
 simp only
 have h3:=ztL bs n.2 h p2
 cases e3:zrh bs n.2 with
 |error e=>
  rw[e3]at h3
  have hq:(e !=0)=true:=zpU e3
  simp only[dOf]at h3⊢
  repeat'(first|exact zC|refine zq hq ?_|refine zx (h1) ?_|refine zx (h2) ?_|refine zx (h3) ?_|(apply zaa<;>intro hb)|(apply I;exact zI)|(apply I<;>intro hg))
  rfl
 |ok c=>
 rw[e3]at h3
 obtain⟨p3,hc⟩:=zkR h e3
 have f:=zeK hc
 have hk:=zfb h e1
 have hn:=zlW h e2
 have h4:=zfD ⟨k.1,n.1,c.1.1,c.1.2.1,c.1.2.2⟩ (by unfold Req.ok i64;simp only;omega)
 simp only[dOf]at h3⊢
 cases hm:Req.may ⟨k.1,n.1,c.1.1,c.1.2.1,c.1.2.2⟩
 ·rw[hm]at h4
  rw[if_neg (by simp)]
  repeat'(first|exact zC|refine zq0 ?_|refine zx (h1) ?_|refine zx (h2) ?_|refine zx (h3) ?_|refine zx (h4) ?_|(apply zaa<;>intro hb)|(apply I;exact zI)|(apply I<;>intro hg))
  rfl
 ·rw[hm]at h4
  rw[if_pos rfl]
  repeat'(first|exact zC|refine zq0 ?_|refine zx (h1) ?_|refine zx (h2) ?_|refine zx (h3) ?_|refine zx (h4) ?_|(apply zaa<;>intro hb)|(apply I;exact zI)|(apply I<;>intro hg))
  rfl
theorem zhR {bs:List Int} (h:BsOk bs) {p:Int} {y:Req×Int} (hy:zlX bs p= .ok y):i64 y.2∧Req.may y.1=true:=by
 unfold zlX at hy
 cases e1:zbv bs p with
 |error x=>rw[e1]at hy;cases hy
 |ok k=>
 rw[e1]at hy;simp only at hy
 cases e2:zbn bs k.2 with
 |error x=>rw[e2]at hy;cases hy
 |ok n=>
 rw[e2]at hy;simp only at hy
 cases e3:zrh bs n.2 with
 |error x=>rw[e3]at hy;cases hy
 |ok s=>
 rw[e3]at hy;simp only at hy
 split at hy
 ·rename_i hm
  cases hy
  exact⟨(zkR h e3).1,hm⟩
 ·cases hy
theorem zlV {bs:List Int} {p e:Int} (hy:zlX bs p= .error e):(e !=0)=true:=by
 unfold zlX at hy
 cases e1:zbv bs p with
 |error x=>rw[e1]at hy;cases hy;simpa using(zbX e1).2
 |ok k=>
 rw[e1]at hy;simp only at hy
 cases e2:zbn bs k.2 with
 |error x=>rw[e2]at hy;cases hy;simpa using(zbX e2).2
 |ok n=>
 rw[e2]at hy;simp only at hy
 cases e3:zrh bs n.2 with
 |error x=>rw[e3]at hy;cases hy;exact zpU e3
 |ok s=>
 rw[e3]at hy;simp only at hy
 split at hy
 ·cases hy
 ·cases hy;rfl
def zjZ (bs:List Int) (p:Int):Rr Batch:=match zbv bs p with
 | .error e=> .error e
 | .ok k=>if k.1>1 then .error 4 else if k.1=1 then .ok (⟨true,0,⟨0,0⟩,0,[]⟩,k.2)else match za2 (zbn bs) 4 k.2 []with
  | .error e=> .error e
  | .ok l=>match zbH bs l.2 3 with
   | .error e=> .error e
   | .ok n=>match za2 (zlX bs) n.1.toNat n.2 []with
    | .error e=> .error e
    | .ok rs=>if Batch.may ⟨false,l.1.getD 0 0,⟨l.1.getD 1 0,l.1.getD 2 0⟩,l.1.getD 3 0,rs.1⟩=true then .ok (⟨false,l.1.getD 0 0,⟨l.1.getD 1 0,l.1.getD 2 0⟩,l.1.getD 3 0,rs.1⟩,rs.2)else .error 4
abbrev zzQ:Batch:=⟨false,0,⟨0,0⟩,0,[]⟩
abbrev zzy (b:Batch):RF:= .agg (b.enc.map RO.d)
theorem reqsE_snoc {l:List Req} {r:Req}:zbI (l++[r])=zbI l++r.enc:=by simp[zbI]
theorem reqs_take {l:List Req}:(zbI l).take (l.length*5)=zbI l:=zcL Req.enc 5 (fun _=>rfl) l
theorem zzz {l:List Int} (h:l.length=2):∃a b,l=[a,b]:=by
 match l,h with
 |[a,b],_=>exact⟨a,b,rfl⟩
theorem zvO {l:List Int} (h:l.length=3):∃a b c,l=[a,b,c]:=by
 match l,h with
 |[a,b,c],_=>exact⟨a,b,c,rfl⟩
theorem zya {l:List Int} (h:l.length=4):∃a b c d,l=[a,b,c,d]:=by
 match l,h with
 |[a,b,c,d],_=>exact⟨a,b,c,d,rfl⟩
theorem zhp {Z:List Nat} {r:Rs} {h h':Hd} {a b c d:Nat} {xs ys:List AV}:fgc Z r (.agg [.ptr h a, .ptr h b, .ptr h c, .ptr h d]::xs) (.agg [.ptr h' a, .ptr h' b, .ptr h' c, .ptr h' d]::ys)=((zut Z r h=true∧(⟨h.s,h.j,epZ Z h.s h.e⟩:Hd)=h')∧fgc Z r xs ys):=by
 simp only[fgc,zl8,zjS,zmb,zoP,ziM,zma,reduceCtorEq,false_or,AV.agg.injEq,List.cons.injEq,C.ptr.injEq,and_true,Bool.and_eq_true]
 apply propext
 constructor
 ·rintro⟨⟨h1,h2⟩,h3⟩;exact⟨⟨h1.1,h2.1⟩,h3⟩
 ·rintro⟨⟨h1,h2⟩,h3⟩;exact⟨⟨⟨h1,h1,h1,h1⟩,h2,h2,h2,h2⟩,h3⟩
set_option maxHeartbeats 4000000 in
theorem znu (bs:List Int) (p:Int) (h:BsOk bs) (hp:i64 p):CallOK Tryz.prog 142 [.f (asl bs.length (zad bs)), .f (ai p)] (fun r o=>r=[zzy (dOf zzQ (zjZ bs p)).1,ri (dOf zzQ (zjZ bs p)).2.1,ri (dOf zzQ (zjZ bs p)).2.2]∧o=[]):=by
 refine CallOK.nil ?_
 refine zh Tryz.func142 Tryz.results142 Tryz.ntmps142 Tryz.call142 ?_
 simp only[Tryz.f142,Option.getD]
 unfold zjZ
 cases e1:zbv bs p with
 |error e=>
  obtain⟨h1,hq⟩:=zvP h hp e1
  simp only[dOf]
  repeat'(first|exact zC|refine zq hq ?_|refine zx (h1) ?_|(apply zaa<;>intro hb)|(apply I;exact zI)|(apply I<;>intro hg))
  simp[zaG,zcn,zaK,zaw]
 |ok k=>
 have h1:=ztK h hp e1
 have p1:=zba h e1
 simp only
 cases g1:decide (k.1>1)
 ·rw[if_neg (by simpa using g1)]
  cases g2:(k.1==1)
  ·rw[if_neg (by simpa using g2)]
   repeat'(first|exact zC|refine zq (I g1 g2) ?_|refine zx (h1) ?_|(apply zaa<;>intro hb)|(apply I;exact zI)|(apply I<;>intro hg))
   refine zaf (τ:=Nat×Int×List Int) (fun a=>⟨(asl bs.length (zad bs)::ai a.2.1::dq2 (ptq 4::dq4 (ptq 9::zwa (.agg [.ptr ⟨9,0,1⟩ 1, .ptr ⟨9,0,1⟩ 2, .ptr ⟨9,0,1⟩ 3, .ptr ⟨9,0,1⟩ 4]::ai a.1::zug (zdP []))))),[(4,⟨2,[obq 1 [db false,di 0,di 0,di 0,di 0, .d (.v ze4)],none,none,none,none,none,none]⟩),(9,⟨2,[obq 1 [db false,di (a.2.2.getD 0 0),di (a.2.2.getD 1 0),di (a.2.2.getD 2 0),di (a.2.2.getD 3 0), .d (.v ze4)],none,none,none,none,none,none]⟩)]⟩)
    (fun a=>a.1≤4∧i64 a.2.1∧a.2.2.length=a.1) (fun a=>za2 (zbn bs) (4 - a.1) a.2.1 a.2.2) (fun a=>4 - a.1) (0,k.2,[])
    (Gh.canon [4,9] [] [] (zk @zhp) rfl rfl) ⟨Nat.zero_le _,p1,rfl⟩ ?_
   intro⟨i,q,l⟩ ⟨hi0,hq,hl⟩ hF K hK
   simp only[Nat.sub_zero]at hi0 hq hl hF hK⊢
   refine zw ?_
   refine zaa (fun hlt=> ?_) (fun hge=> ?_)
   ·have hi:i<4:=by simp at hlt;omega
    have hw:IntKind.i64.wrap ((i:Int)+1)=((i+1:Nat):Int):=zai hi (by omega)
    have hst:4 - i=(4 - (i+1))+1:=by omega
    rw[hst,za2]at hF
    rw[←hF]
    cases x1:zbn bs q with
    |error e=>
     obtain⟨h2,hz⟩:=zAb h hq x1
     simp only[dOf]
     rcases(show i=0∨i=1∨i=2∨i=3 by omega)with rfl|rfl|rfl|rfl
     all_goals
      repeat'(first|exact zC|refine zq hz ?_|refine zx (h2) ?_|(apply zaa<;>intro hb)|(apply I;exact zI)|(apply I<;>intro hg))
      simp[zaG,zcn,zaK,zaw]
    |ok x=>
    have h2:=zAa h hq x1
    have hs2:za2 (zbn bs) (4 - (i+1)) x.2 (l++[x.1])=za2 (zbn bs) (4 - i) q l:=by rw[hst,za2,x1]
    have p2:=zas h x1
    rcases(show i=0∨i=1∨i=2∨i=3 by omega)with rfl|rfl|rfl|rfl
    ·have hl0:l=[]:=List.length_eq_zero_iff.1 hl
     subst hl0
     repeat'(first|exact zC|refine zq0 ?_|refine zx (h2) ?_|(apply zaa<;>intro hb)|(apply I;exact zI)|(apply I<;>intro hg))
     exact hK _ (0+1,x.2,[x.1]) (Gh.canon [4,9] [] [] (zk (I hw @zhp)) rfl rfl) ⟨by simp only;omega,p2,rfl⟩ hs2 (by simp only;omega)
    ·obtain⟨a,rfl⟩:=List.length_eq_one_iff.1 hl
     repeat'(first|exact zC|refine zq0 ?_|refine zx (h2) ?_|(apply zaa<;>intro hb)|(apply I;exact zI)|(apply I<;>intro hg))
     exact hK _ (1+1,x.2,[a,x.1]) (Gh.canon [4,9] [] [] (zk (I hw @zhp)) rfl rfl) ⟨by simp only;omega,p2,rfl⟩ hs2 (by simp only;omega)
    ·obtain⟨a,b,rfl⟩:=zzz hl
     repeat'(first|exact zC|refine zq0 ?_|refine zx (h2) ?_|(apply zaa<;>intro hb)|(apply I;exact zI)|(apply I<;>intro hg))
     exact hK _ (2+1,x.2,[a,b,x.1]) (Gh.canon [4,9] [] [] (zk (I hw @zhp)) rfl rfl) ⟨by simp only;omega,p2,rfl⟩ hs2 (by simp only;omega)
    ·obtain⟨a,b,c,rfl⟩:=zvO hl
     repeat'(first|exact zC|refine zq0 ?_|refine zx (h2) ?_|(apply zaa<;>intro hb)|(apply I;exact zI)|(apply I<;>intro hg))
     exact hK _ (3+1,x.2,[a,b,c,x.1]) (Gh.canon [4,9] [] [] (zk (I hw @zhp)) rfl rfl) ⟨by simp only;omega,p2,rfl⟩ hs2 (by simp only;omega)
   ·have hi:i=4:=by
     have:¬(i:Int)<4:=by simpa using hge
     omega
    subst hi
    rw[Nat.sub_self,za2]at hF
    have hval:=(zdZ (ok:=fun v=>0≤v∧v<4611686018427387904) (fun q z hz=>⟨zas h hz,zlW h hz⟩) p1 (fun _ hx=>by cases hx) hF.symm).2.2
    rw[←hF]
    obtain⟨v0,v1,v2,v3,rfl⟩:=zya hl
    have q0:=hval v0 (by simp)
    have q1:=hval v1 (by simp)
    have q2:=hval v2 (by simp)
    have q3:=hval v3 (by simp)
    clear hval hF hK
    simp only[List.getD_cons_zero,List.getD_cons_succ]
    cases e3:zbH bs q 3 with
    |error e=>
     rcases zfI e3 with hz|⟨z,hz,hgt,rfl⟩
     ·obtain⟨h3,hw⟩:=zvP h hq hz
      simp only[dOf]
      repeat'(first|exact zC|refine zq hw ?_|refine zx (h3) ?_|(apply zaa<;>intro hb)|(apply I;exact zI)|(apply I<;>intro hg))
      simp[zaG,zcn,zaK,zaw]
     ·have h3:=ztK h hq hz
      have hgt:decide (z.1>3)=true:=by simpa using hgt
      simp only[dOf]
      repeat'(first|exact zC|refine zq hgt ?_|refine zx (h3) ?_|(apply zaa<;>intro hb)|(apply I;exact zI)|(apply I<;>intro hg))
      simp[zaG,zcn,zaK,zaw]
    |ok n=>
    obtain⟨hz,hle⟩:=ziL e3
    obtain⟨p3,n0,n3⟩:=zcR h e3
    have h3:=ztK h hq hz
    have hgt:decide (n.1>3)=false:=by simp;omega
    simp only
    repeat'(first|exact zC|refine zq hgt ?_|refine zx (h3) ?_|(apply zaa<;>intro hb)|(apply I;exact zI)|(apply I<;>intro hg))
    refine zaf (τ:=Nat×Int×List Req) (fun a=>⟨(asl bs.length (zad bs)::ai a.2.1::dq2 (ptq 4::dq4 (ptq 9::zyt (zdP (ai n.1::ai a.1::zv9 []))))),[(4,⟨2,[obq 1 [db false,di 0,di 0,di 0,di 0, .d (.v ze4)],none,none,none,none,none,none]⟩),(9,⟨2,[obq 1 [db false,di v0,di v1,di v2,di v3, .own ⟨9,6,1⟩ 0 a.2.2.length],none,none,none,none,none,roq 1 5 (zbI a.2.2)]⟩),(13,⟨2,[]⟩),(92,⟨2,[]⟩),(93,⟨2,[]⟩)]⟩)
     (fun a=>a.1≤n.1.toNat∧i64 a.2.1∧a.2.2.length=a.1∧∀r∈a.2.2,Req.may r=true) (fun a=>za2 (zlX bs) (n.1.toNat - a.1) a.2.1 a.2.2) (fun a=>n.1.toNat - a.1) (0,n.2,[])
     ((Gh.nilF 9 5 5 rfl).trans (Gh.canon [4,9] [13,92,93] [] zK rfl rfl)) ⟨Nat.zero_le _,p3,rfl,fun _ hx=>by cases hx⟩ ?_
    intro⟨i,q2,acc⟩ ⟨hi0,hq2,ha,hmy⟩ hF K hK
    simp only[Nat.sub_zero]at hi0 hq2 ha hmy hF hK⊢
    refine zw ?_
    refine zaa (fun hlt=> ?_) (fun hge=> ?_)
    ·have hi:i<n.1.toNat:=by simp at hlt;omega
     have hw:=zai hi (by omega)
     have hst:n.1.toNat - i=(n.1.toNat - (i+1))+1:=by omega
     have h4:=znv bs q2 h hq2
     cases x1:zlX bs q2 with
     |error e=>
      rw[←hF,hst,za2,x1]
      rw[x1]at h4
      simp only[dOf]at h4⊢
      have hz:=zlV x1
      repeat'(first|exact zC|refine zq hz ?_|refine zx (h4) ?_|(apply zaa<;>intro hb)|(apply I;exact zI)|(apply I<;>intro hg))
      simp[zaG,zcn,zaK,zaw]
     |ok x=>
     rw[x1]at h4
     simp only[dOf]at h4
     have hs2:za2 (zlX bs) (n.1.toNat - (i+1)) x.2 (acc++[x.1])=za2 (zlX bs) (n.1.toNat - i) q2 acc:=by rw[hst,za2,x1]
     have hcl:(acc.length+1≤2^47)=True:=eq_true (by omega)
     obtain⟨px,mx⟩:=zhR h x1
     repeat'(first|exact zC|refine zq (I @reqs_take (I @zaJ hcl)) ?_|refine zx (h4) ?_|(apply zaa<;>intro hb)|(apply I;exact zI)|(apply I<;>intro hg))
     refine hK _ (i+1,x.2,acc++[x.1]) (Gh.canon [4,9] [] [] (zk (I hw (I @List.length_append.{0} @List.length_singleton.{0}))) rfl (by simp only[List.length_append,List.length_singleton];rw[reqsE_snoc];rfl)) ⟨hi,px,by simp only[List.length_append,List.length_singleton];omega,fun r hr=> ?_⟩ hs2 (by simp only;omega)
     rcases List.mem_append.1 hr with hr|hr
     ·exact hmy r hr
     ·simp at hr;subst hr;exact mx
    ·have hi:i=n.1.toNat:=by simp at hge;omega
     rw[hi,Nat.sub_self,za2]at hF
     rw[←hF]
     simp only
     have hm:=zdo ⟨false,v0,⟨v1,v2⟩,v3,acc⟩ ⟨by unfold i64;simp only;omega,by unfold i64;simp only;omega,by unfold i64;simp only;omega,by unfold i64;simp only;omega,by simp only;omega,fun r hr=>(zfF (hmy r hr)).2.2.2⟩
     clear hK hF
     cases hb:Batch.may ⟨false,v0,⟨v1,v2⟩,v3,acc⟩
     ·rw[hb]at hm
      rw[if_neg (by simp)]
      simp only[dOf]
      repeat'(first|exact zC|refine zq @reqs_take ?_|refine zx (hm) ?_|(apply zaa<;>intro hb)|(apply I;exact zI)|(apply I<;>intro hg))
      simp[zaG,zcn,zaK,zaw]
     ·rw[hb]at hm
      rw[if_pos rfl]
      simp only[dOf]
      repeat'(first|exact zC|refine zq @reqs_take ?_|refine zx (hm) ?_|(apply zaa<;>intro hb)|(apply I;exact zI)|(apply I<;>intro hg))
      simp[zaG,zcn,zaK,zaw, -List.length_flatMap,zaJ]
  ·rw[if_pos (by simpa using g2)]
   simp only[dOf]
   repeat'(first|exact zC|refine zq (I g1 g2) ?_|refine zx (h1) ?_|(apply zaa<;>intro hb)|(apply I;exact zI)|(apply I<;>intro hg))
   simp[zaG,zcn,zaK,zaw]
 ·rw[if_pos (by simpa using g1)]
  simp only[dOf]
  repeat'(first|exact zC|refine zq g1 ?_|refine zx (h1) ?_|(apply zaa<;>intro hb)|(apply I;exact zI)|(apply I<;>intro hg))
  simp[zaG,zcn,zaK,zaw]
abbrev zyB:Value:=ze6 84 4
theorem zcO:CallOK Tryz.prog 96 [.f (ai 0)] (fun r o=>r=[]∧o=[]):=by
 refine zh Tryz.func96 Tryz.results96 Tryz.ntmps96 Tryz.call96 ?_
 simp only[Tryz.f96,Option.getD]
 repeat'(first|exact zC|refine zq0 ?_|(apply zaa<;>intro hb)|(apply I;exact zI)|(apply I<;>intro hg))
theorem zeJ (e:Int) (h:(e !=0)=true):zbL Tryz.prog 96 [.f (ai e)] zyB:=by
 refine zhy Tryz.func96 Tryz.ntmps96 Tryz.call96 ?_
 simp only[Tryz.f96,Option.getD]
 repeat'(first|exact zC|refine zq (I h @zab) ?_|(apply zaa<;>intro hb)|(apply I;exact zI)|(apply I<;>intro hg))
theorem zhn {α:Type} {f:Int→Rr α} (hf:∀p e,f p= .error e→(e !=0)=true):∀{n:Nat} {p:Int} {acc:List α} {e:Int},za2 f n p acc= .error e→(e !=0)=true
 |0,p,acc,e,h=>by cases h
 |n+1,p,acc,e,h=>by
  rw[za2]at h
  cases hx:f p with
  |error x=>rw[hx]at h;cases h;exact hf _ _ hx
  |ok x=>rw[hx]at h;exact zhn hf h
theorem zvN {bs:List Int} {p e:Int} (hy:zjZ bs p= .error e):(e !=0)=true:=by
 unfold zjZ at hy
 cases e1:zbv bs p with
 |error x=>rw[e1]at hy;cases hy;simpa using(zbX e1).2
 |ok k=>
 rw[e1]at hy;simp only at hy
 split at hy
 ·cases hy;rfl
 split at hy
 ·cases hy
 cases e2:za2 (zbn bs) 4 k.2 []with
 |error x=>rw[e2]at hy;cases hy;exact zhn (fun q z hz=>by simpa using(zbX hz).2) e2
 |ok l=>
 rw[e2]at hy;simp only at hy
 cases e3:zbH bs l.2 3 with
 |error x=>
  rw[e3]at hy;cases hy
  rcases zfI e3 with hz|⟨_,_,_,rfl⟩
  ·simpa using(zbX hz).2
  ·rfl
 |ok n=>
 rw[e3]at hy;simp only at hy
 cases e4:za2 (zlX bs) n.1.toNat n.2 []with
 |error x=>rw[e4]at hy;cases hy;exact zhn (fun q z hz=>zlV hz) e4
 |ok rs=>
 rw[e4]at hy;simp only at hy
 split at hy
 ·cases hy
 ·cases hy;rfl
theorem zlR (bs:List Int) (p:Int) (h:BsOk bs) (hp:i64 p) {y:Int×Int} (hy:zbv bs p= .ok y):
  CallOK Tryz.prog 89 [.obj (rds bs p)] (fun r o=>r=[ri y.1]∧o=[rds bs y.2]):=by
 obtain⟨h0,rfl⟩:=zdu hy
 refine zh Tryz.func89 Tryz.results89 Tryz.ntmps89 Tryz.call89 ?_
 simp only[Tryz.f89,Option.getD]
 have h1:=zds bs p h hp
 rw[h0]at h1
 repeat'(first|exact zC|refine zq0 ?_|refine zx (h1) ?_|refine zx (zcO) ?_|(apply zaa<;>intro hb)|(apply I;exact zI)|(apply I<;>intro hg))
theorem zjD (bs:List Int) (p:Int) (h:BsOk bs) (hp:i64 p) {e:Int} (hy:zbv bs p= .error e):
  zbL Tryz.prog 89 [.obj (rds bs p)] zyB:=by
 obtain⟨h0,h2⟩:=zbX hy
 have h2:(e !=0)=true:=by simpa using h2
 refine zhy Tryz.func89 Tryz.ntmps89 Tryz.call89 ?_
 simp only[Tryz.f89,Option.getD]
 have h1:=zds bs p h hp
 rw[h0]at h1
 repeat'(first|exact zC|refine zq0 ?_|refine zx (h1) ?_|(apply zaa<;>intro hb)|(apply I;exact zI)|(apply I<;>intro hg))
 refine zdq (zeJ e h2) rfl ?_
 first|refine zs @zab ?_|exact zt @zab
theorem zcg (bs:List Int) (p:Int) (h:BsOk bs) (hp:i64 p) {y:Int×Int} (hy:zbn bs p= .ok y):
  CallOK Tryz.prog 92 [.obj (rds bs p)] (fun r o=>r=[ri y.1]∧o=[rds bs y.2]):=by
 obtain⟨h0,rfl⟩:=zdu hy
 refine zh Tryz.func92 Tryz.results92 Tryz.ntmps92 Tryz.call92 ?_
 simp only[Tryz.f92,Option.getD]
 have h1:=zeU bs p h hp
 rw[h0]at h1
 repeat'(first|exact zC|refine zq0 ?_|refine zx (h1) ?_|refine zx (zcO) ?_|(apply zaa<;>intro hb)|(apply I;exact zI)|(apply I<;>intro hg))
theorem zbF (bs:List Int) (p:Int) (h:BsOk bs) (hp:i64 p) {e:Int} (hy:zbn bs p= .error e):
  zbL Tryz.prog 92 [.obj (rds bs p)] zyB:=by
 obtain⟨h0,h2⟩:=zbX hy
 have h2:(e !=0)=true:=by simpa using h2
 refine zhy Tryz.func92 Tryz.ntmps92 Tryz.call92 ?_
 simp only[Tryz.f92,Option.getD]
 have h1:=zeU bs p h hp
 rw[h0]at h1
 repeat'(first|exact zC|refine zq0 ?_|refine zx (h1) ?_|(apply zaa<;>intro hb)|(apply I;exact zI)|(apply I<;>intro hg))
 refine zdq (zeJ e h2) rfl ?_
 first|refine zs @zab ?_|exact zt @zab
theorem zlS (bs:List Int) (p:Int) (h:BsOk bs) (hp:i64 p) {y:Batch×Int} (hy:zjZ bs p= .ok y):
  CallOK Tryz.prog 94 [.obj (rds bs p)] (fun r o=>r=[zzy y.1]∧o=[rds bs y.2]):=by
 refine zh Tryz.func94 Tryz.results94 Tryz.ntmps94 Tryz.call94 ?_
 simp only[Tryz.f94,Option.getD]
 have h1:=znu bs p h hp
 rw[hy]at h1
 simp only[dOf]at h1
 repeat'(first|exact zC|refine zq0 ?_|refine zx (h1) ?_|refine zx (zcO) ?_|(apply zaa<;>intro hb)|(apply I;exact zI)|(apply I<;>intro hg))
 rfl
theorem zjE (bs:List Int) (p:Int) (h:BsOk bs) (hp:i64 p) {e:Int} (hy:zjZ bs p= .error e):
  zbL Tryz.prog 94 [.obj (rds bs p)] zyB:=by
 have h2:=zvN hy
 refine zhy Tryz.func94 Tryz.ntmps94 Tryz.call94 ?_
 simp only[Tryz.f94,Option.getD]
 have h1:=znu bs p h hp
 rw[hy]at h1
 simp only[dOf]at h1
 repeat'(first|exact zC|refine zq0 ?_|refine zx (h1) ?_|(apply zaa<;>intro hb)|(apply I;exact zI)|(apply I<;>intro hg))
 refine zdq (zeJ e h2) rfl ?_
 first|refine zs @zab ?_|exact zt @zab
def zlT (bs:List Int) (p:Int):Rr Vote:=match zbn bs p with
 | .error e=> .error e
 | .ok s=>match zbn bs s.2 with
  | .error e=> .error e
  | .ok b=>match zjZ bs b.2 with
   | .error e=> .error e
   | .ok x=> .ok (⟨s.1,b.1,x.1⟩,x.2)
def zlU (bs:List Int) (p:Int):Rr Prom:=match zbv bs p with
 | .error e=> .error e
 | .ok f=>match zbn bs f.2 with
  | .error e=> .error e
  | .ok d=>match zbn bs d.2 with
   | .error e=> .error e
   | .ok v=>match zbn bs v.2 with
    | .error e=> .error e
    | .ok s=>match zbn bs s.2 with
     | .error e=> .error e
     | .ok t=>match zbv bs t.2 with
      | .error e=> .error e
      | .ok n=>match za2 (zlT bs) n.1.toNat n.2 []with
       | .error e=> .error e
       | .ok l=> .ok (⟨f.1,d.1,⟨v.1,s.1⟩,t.1,l.1⟩,l.2)
theorem votesE_snoc (b:List Vote) (v:Vote):zbh (b++[v])=zbh b++v.enc:=by simp[zbh]
theorem votes_take {l:List Vote}:(zbh l).take (l.length*8)=zbh l:=zcL Vote.enc 8 (fun _=>rfl) l
theorem zho {bs:List Int} (h:BsOk bs) {p:Int} {y:Batch×Int} (hy:zjZ bs p= .ok y):i64 y.2:=by
 unfold zjZ at hy
 cases e1:zbv bs p with
 |error x=>rw[e1]at hy;cases hy
 |ok k=>
 have p1:=zba h e1
 rw[e1]at hy;simp only at hy
 split at hy
 ·cases hy
 split at hy
 ·cases hy;exact p1
 cases e2:za2 (zbn bs) 4 k.2 []with
 |error x=>rw[e2]at hy;cases hy
 |ok l=>
 have p2:=(zdZ (ok:=fun _=>True) (fun q z hz=>⟨zas h hz,trivial⟩) p1 (fun _ _=>trivial) e2).1
 rw[e2]at hy;simp only at hy
 cases e3:zbH bs l.2 3 with
 |error x=>rw[e3]at hy;cases hy
 |ok n=>
 have p3:=(zcR h e3).1
 rw[e3]at hy;simp only at hy
 cases e4:za2 (zlX bs) n.1.toNat n.2 []with
 |error x=>rw[e4]at hy;cases hy
 |ok rs=>
 have p4:=(zdZ (ok:=fun _=>True) (fun q z hz=>⟨(zhR h hz).1,trivial⟩) p3 (fun _ _=>trivial) e4).1
 rw[e4]at hy;simp only at hy
 split at hy
 ·cases hy;exact p4
 ·cases hy
set_option maxHeartbeats 4000000 in
theorem zjF (bs:List Int) (p:Int) (h:BsOk bs) (hp:i64 p) (b:Bool) (y:Prom×Int) (e:Int) (hy:zl3 b y e (zlU bs p)):
  (b=true→CallOK Tryz.prog 93 [.obj (rds bs p)] (fun r o=>zaG r [.agg (y.1.enc.map RO.d)]∧o=[rds bs y.2]))∧(b=false→zbL Tryz.prog 93 [.obj (rds bs p)] zyB):=by
 refine zhb Tryz.func93 Tryz.results93 Tryz.ntmps93 Tryz.call93 ?_
 simp only[Tryz.f93,Option.getD]
 unfold zlU at hy
 cases e1:zbv bs p with
 |error x=>
  rw[e1]at hy
  obtain⟨rfl,rfl⟩:=zax hy
  have hr:=zjD bs _ h hp e1
  repeat'(first|exact zC|refine zq0 ?_|(apply zaa<;>intro hb)|(apply I;exact zI)|(apply I<;>intro hg))
  refine zp (rds bs p) (hr) ?_
  first|refine zs (I @zal @zab) ?_|exact zt (I @zal @zab)
 |ok f=>
 have he1:=zlR bs _ h hp e1
 have p1:=zba h e1
 rw[e1]at hy
 simp only at hy
 repeat'(first|exact zC|refine zq0 ?_|(apply zaa<;>intro hb)|(apply I;exact zI)|(apply I<;>intro hg))
 refine zj (he1) ?_
 cases e2:zbn bs f.2 with
 |error x=>
  rw[e2]at hy
  obtain⟨rfl,rfl⟩:=zax hy
  have hr:=zbF bs _ h p1 e2
  repeat'(first|exact zC|refine zq0 ?_|(apply zaa<;>intro hb)|(apply I;exact zI)|(apply I<;>intro hg))
  refine zp (rds bs p) (hr) ?_
  first|refine zs (I @zal @zab) ?_|exact zt (I @zal @zab)
 |ok d=>
 have he2:=zcg bs _ h p1 e2
 have p2:=zas h e2
 rw[e2]at hy
 simp only at hy
 repeat'(first|exact zC|refine zq0 ?_|(apply zaa<;>intro hb)|(apply I;exact zI)|(apply I<;>intro hg))
 refine zj (he2) ?_
 cases e3:zbn bs d.2 with
 |error x=>
  rw[e3]at hy
  obtain⟨rfl,rfl⟩:=zax hy
  have hr:=zbF bs _ h p2 e3
  repeat'(first|exact zC|refine zq0 ?_|(apply zaa<;>intro hb)|(apply I;exact zI)|(apply I<;>intro hg))
  refine zp (rds bs p) (hr) ?_
  first|refine zs (I @zal @zab) ?_|exact zt (I @zal @zab)
 |ok v=>
 have he3:=zcg bs _ h p2 e3
 have p3:=zas h e3
 rw[e3]at hy
 simp only at hy
 repeat'(first|exact zC|refine zq0 ?_|(apply zaa<;>intro hb)|(apply I;exact zI)|(apply I<;>intro hg))
 refine zj (he3) ?_
 cases e4:zbn bs v.2 with
 |error x=>
  rw[e4]at hy
  obtain⟨rfl,rfl⟩:=zax hy
  have hr:=zbF bs _ h p3 e4
  repeat'(first|exact zC|refine zq0 ?_|(apply zaa<;>intro hb)|(apply I;exact zI)|(apply I<;>intro hg))
  refine zp (rds bs p) (hr) ?_
  first|refine zs (I @zal @zab) ?_|exact zt (I @zal @zab)
 |ok s=>
 have he4:=zcg bs _ h p3 e4
 have p4:=zas h e4
 rw[e4]at hy
 simp only at hy
 repeat'(first|exact zC|refine zq0 ?_|(apply zaa<;>intro hb)|(apply I;exact zI)|(apply I<;>intro hg))
 refine zj (he4) ?_
 cases e5:zbn bs s.2 with
 |error x=>
  rw[e5]at hy
  obtain⟨rfl,rfl⟩:=zax hy
  have hr:=zbF bs _ h p4 e5
  repeat'(first|exact zC|refine zq0 ?_|(apply zaa<;>intro hb)|(apply I;exact zI)|(apply I<;>intro hg))
  refine zp (rds bs p) (hr) ?_
  first|refine zs (I @zal @zab) ?_|exact zt (I @zal @zab)
 |ok t=>
 have he5:=zcg bs _ h p4 e5
 have p5:=zas h e5
 rw[e5]at hy
 simp only at hy
 repeat'(first|exact zC|refine zq0 ?_|(apply zaa<;>intro hb)|(apply I;exact zI)|(apply I<;>intro hg))
 refine zj (he5) ?_
 cases e6:zbv bs t.2 with
 |error x=>
  rw[e6]at hy
  obtain⟨rfl,rfl⟩:=zax hy
  have hr:=zjD bs _ h p5 e6
  repeat'(first|exact zC|refine zq0 ?_|(apply zaa<;>intro hb)|(apply I;exact zI)|(apply I<;>intro hg))
  refine zp (rds bs p) (hr) ?_
  first|refine zs (I @zal @zab) ?_|exact zt (I @zal @zab)
 |ok n=>
 have he6:=zlR bs _ h p5 e6
 have p6:=zba h e6
 rw[e6]at hy
 simp only at hy
 repeat'(first|exact zC|refine zq0 ?_|(apply zaa<;>intro hb)|(apply I;exact zI)|(apply I<;>intro hg))
 refine zj (he6) ?_
 have hnv:=zfb h e6
 repeat'(first|exact zC|refine zq0 ?_|(apply zaa<;>intro hb)|(apply I;exact zI)|(apply I<;>intro hg))
 refine zaf (τ:=Nat×Int×List Vote×Nat) (fun a=>⟨(.one (.ptr ⟨0,0,0⟩ 0)::dd::ptq 2::ptq 3::zys (ai n.1::ai a.1::zug [])),[zyM bs a.2.1 a.2.2.2,(2,⟨2,[obq 1 [di 0,di 0,di 0,di 0,di 0, .d (.v ze4)],none,none,none,none,none,none]⟩),(3,⟨2,[obq 1 [di f.1,di d.1,di v.1,di s.1,di t.1, .own ⟨3,6,1⟩ 0 a.2.2.1.length],none,none,none,none,none,roq 1 8 (zbh a.2.2.1)]⟩),(4,⟨2,[]⟩),(38,⟨2,[]⟩),(39,⟨2,[]⟩)]⟩)
  (fun a=>a.1≤n.1.toNat∧i64 a.2.1∧a.2.2.1.length=a.1) (fun a=>za2 (zlT bs) (n.1.toNat - a.1) a.2.1 a.2.2.1) (fun a=>n.1.toNat - a.1) (0,n.2,[],7)
  ((Gh.nilF 3 5 8 rfl).trans (Gh.canon [0,2,3] [4,38,39] [0] zK rfl rfl)) ⟨Nat.zero_le _,p6,rfl⟩ ?_
 intro⟨i,q,acc,nx⟩ ⟨hi0,hq,ha⟩ hF K hK
 simp only[Nat.sub_zero]at hi0 hq ha hF hK⊢
 rw[←hF]at hy
 refine zw ?_
 refine zaa (fun hlt=> ?_) (fun hge=> ?_)
 ·have hi:i<n.1.toNat:=by simp at hlt;omega
  have hw:=zai hi (by omega)
  have hst:n.1.toNat - i=(n.1.toNat - (i+1))+1:=by omega
  rw[hst,za2,zlT]at hy
  cases x1:zbn bs q with
  |error x=>
   rw[x1]at hy
   obtain⟨rfl,rfl⟩:=zax hy
   have hr:=zbF bs q h hq x1
   repeat'(first|exact zC|refine zq0 ?_|(apply zaa<;>intro hb)|(apply I;exact zI)|(apply I<;>intro hg))
   refine zp (rds bs p) (hr) ?_
   first|refine zs (I @zal @zab) ?_|exact zt (I @zal @zab)
  |ok c=>
  rw[x1]at hy
  simp only at hy
  have hr1:=zcg bs q h hq x1
  repeat'(first|exact zC|refine zq0 ?_|(apply zaa<;>intro hb)|(apply I;exact zI)|(apply I<;>intro hg))
  refine zj (hr1) ?_
  cases x2:zbn bs c.2 with
  |error x=>
   rw[x2]at hy
   obtain⟨rfl,rfl⟩:=zax hy
   have hr:=zbF bs _ h (zas h x1) x2
   repeat'(first|exact zC|refine zq0 ?_|(apply zaa<;>intro hb)|(apply I;exact zI)|(apply I<;>intro hg))
   refine zp (rds bs p) (hr) ?_
   first|refine zs (I @zal @zab) ?_|exact zt (I @zal @zab)
  |ok m=>
  rw[x2]at hy
  simp only at hy
  have hr2:=zcg bs _ h (zas h x1) x2
  repeat'(first|exact zC|refine zq0 ?_|(apply zaa<;>intro hb)|(apply I;exact zI)|(apply I<;>intro hg))
  refine zj (hr2) ?_
  cases x3:zjZ bs m.2 with
  |error x=>
   rw[x3]at hy
   obtain⟨rfl,rfl⟩:=zax hy
   have hr:=zjE bs _ h (zas h x2) x3
   repeat'(first|exact zC|refine zq0 ?_|(apply zaa<;>intro hb)|(apply I;exact zI)|(apply I<;>intro hg))
   refine zp (rds bs p) (hr) ?_
   first|refine zs (I @zal @zab) ?_|exact zt (I @zal @zab)
  |ok r=>
  rw[x3]at hy
  simp only at hy
  have hr3:=zlS bs _ h (zas h x2) x3
  repeat'(first|exact zC|refine zq0 ?_|(apply zaa<;>intro hb)|(apply I;exact zI)|(apply I<;>intro hg))
  refine zj (hr3) ?_
  have hcl:(acc.length+1≤2^47)=True:=eq_true (by omega)
  have hF2:za2 (zlT bs) (n.1.toNat - (i+1)) r.2 (acc++[⟨c.1,m.1,r.1⟩])=za2 (zlT bs) (n.1.toNat - i) q acc:=by rw[hst,za2,zlT,x1];simp only;rw[x2];simp only;rw[x3]
  repeat'(first|exact zC|refine zq (I @votes_take (I @zaI hcl)) ?_|(apply zaa<;>intro hb)|(apply I;exact zI)|(apply I<;>intro hg))
  refine hK _ (i+1,r.2,acc++[⟨c.1,m.1,r.1⟩],nx+3) (Gh.canon [0,2,3] [] [0] (zk (I hw (I @List.length_append.{0} @List.length_singleton.{0}))) rfl (by simp only[List.length_append,List.length_singleton];rw[votesE_snoc];rfl)) ⟨hi,zho h x3,by simp only[List.length_append,List.length_singleton];omega⟩ hF2 (by simp only;omega)
 ·have hi:i=n.1.toNat:=by simp at hge;omega
  rw[hi,Nat.sub_self,za2]at hy
  obtain⟨rfl,rfl⟩:=zdC hy
  clear hK hF
  repeat'(first|exact zC|refine zq (I @zdB @votes_take) ?_|(apply zaa<;>intro hb)|(apply I;exact zI)|(apply I<;>intro hg))
  simp[zaG,zcn,zaK,zaw, -List.length_flatMap,zaI]
def Cut {α:Type} (m:Nat) (p:Int) (r r':Rr α):Prop:=∀y,r= .ok y→p≤y.2∧(y.2≤m→r'= .ok y)∧(p≤m→m<y.2→r'= .error 2)
abbrev zaL {α β:Type} (r:Rr α) (k:α×Int→Rr β):Rr β:=match r with
 | .error e=> .error e
 | .ok x=>k x
section
variable {bs:List Int} {m:Nat} (hm:m≤bs.length)
include hm
def zzU (bs:List Int) (n:Nat) (p:Int) (acc:List Grant):Rr (List Grant):=rOf (zcr bs n p acc)
end
end Go.Proofs.YtliimajkpggbhaaGreat
