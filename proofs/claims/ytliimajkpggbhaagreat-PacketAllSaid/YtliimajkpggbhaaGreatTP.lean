import Derived.Test.YtliimajkpggbhaaGreatK9
import Derived.JoinedOf
import Derived.Handed
import Derived.ProofKit
import Derived.Test.YtliimajkpggbhaaGreatQC
namespace Go.Proofs.YtliimajkpggbhaaGreat
open Go.Pk Tryz
set_option maxRecDepth 100000
set_option linter.unusedSimpArgs false
set_option linter.unusedVariables false
theorem qs1:∀a:D,toDs (sub 0 1 1 [C.d a])=some [a]:=fun _=>rfl
theorem zvi (k v:Int) (l:List Int):[RF.one (.own 1 (9+l.length) (uD k::(zaa (zaK v)++zaa l)) false),ri 0]=[RF.one (.own 1 ([k]++(zaJ [v]++l)).length (zaa ([k]++(zaJ [v]++l))) false),ri 0]:=by
 simp[zaa,zaJ,zaz];omega
theorem zqX (k v w:Int) (l:List Int):[RF.one (.own 1 (17+l.length) (uD k::(zaa (zaK v)++zaa (zaK w)++zaa l)) false),ri 0]=[RF.one (.own 1 ([k]++(zaJ [v,w]++l)).length (zaa ([k]++(zaJ [v,w]++l))) false),ri 0]:=by
 simp[zaa,zaJ,zaz];omega
theorem zqY (k v:Int):[RF.one (.own 1 9 (uD k::zaa (zaK v)) false),ri 0]=[RF.one (.own 1 ([k]++zaJ [v]).length (zaa ([k]++zaJ [v])) false),ri 0]:=by
 simp[zaa,zaJ,zaz]
theorem zvj (k v w:Int):[RF.one (.own 1 17 (uD k::(zaa (zaK v)++zaa (zaK w))) false),ri 0]=[RF.one (.own 1 ([k]++zaJ [v,w]).length (zaa ([k]++zaJ [v,w])) false),ri 0]:=by
 simp[zaa,zaJ,zaz]
theorem zo0 (p:Pkt) (hp:p.ok) (h:zmm p=false):CallOK prog 12 [.f (.agg (p.enc.map C.d))] (fun r o=>r=[.one (.d (.v zeC)),ri 1]∧o=[]):=by
 refine zh func12 results12 ntmps12 call12 ?_
 simp only[f12,Option.getD]
 have hm:=zkF p hp
 rw[zkE,h]at hm
 exact zW trivial (hm)
set_option maxHeartbeats 8000000 in
theorem zo1 (p:Pkt) (hp:p.ok) (h:zmm p=true):CallOK prog 12 [.f (.agg (p.enc.map C.d))] (fun r o=>r=[.one (.own 1 (pkI p).length (zaa (pkI p)) false),ri 0]∧o=[]):=by
 refine zh func12 results12 ntmps12 call12 ?_
 simp only[f12,Option.getD]
 have hm:=zkF p hp
 rw[zkE,h]at hm
 have ho:=(ziO h).1
 have hl:=ziP h
 obtain⟨kind,ballot,slot,done,req,ans,bat,prom,snap⟩:=p
 rcases kinds kind with rfl|rfl|rfl|rfl|rfl|rfl|rfl|rfl|rfl|⟨k1,k2,k3,k4,k5,k6,k7,k8,k9⟩
 ·have hc:=zjT req ho
  have w:IntKind.u8.wrap 1=1:=zbf (by omega) (by omega)
  have hl:(zhM req).length≤1400:=hl
  have hle:(1+(zhM req).length≤2^47)=True:=eq_true (by omega)
  refine zL (I qs1 (I qs2 (I qs9 (I zrm (I w (I t8 (I hle (I @zah (I @List.length_map.{0,0} @zaz))))))))) (I (hm) (hc)) ?_
  exact put_eq _ _
 ·have hc:=zgx ans ho
  have w:IntKind.u8.wrap 2=2:=zbf (by omega) (by omega)
  have hl:(za9 ans).length≤1400:=hl
  have hle:(1+(za9 ans).length≤2^47)=True:=eq_true (by omega)
  refine zL (I qs1 (I qs2 (I qs9 (I zrm (I w (I t8 (I hle (I @zah (I @List.length_map.{0,0} @zaz))))))))) (I (hm) (hc)) ?_
  exact put_eq _ _
 ·have n1:=zaF ballot (zb7 (show inW ballot 0=true from ho) (by omega))
  have w:IntKind.u8.wrap 3=3:=zbf (by omega) (by omega)
  refine zL (I qs1 (I qs2 (I qs9 (I zrm (I w (I t8 (I @zah (I @List.length_map.{0,0} @zaz)))))))) (I (hm) (n1)) ?_
  exact zqY _ _
 ·have ho:(inW ballot 0&&Prom.may prom)=true:=ho
  rw[Bool.and_eq_true]at ho
  have n1:=zaF ballot (zb7 ho.1 (by omega))
  have w:IntKind.u8.wrap 4=4:=zbf (by omega) (by omega)
  have hc:=zte prom (zrl ho.2)
  have hl:(zaJ [ballot]++zfc prom).length≤1400:=hl
  rw[List.length_append]at hl
  have hle:(9+(zfc prom).length≤2^47)=True:=eq_true (by omega)
  refine zL (I qs1 (I qs2 (I qs9 (I zrm (I w (I t8 (I hle (I @zah (I @List.length_map.{0,0} @zaz))))))))) (I (hm) (I (n1) (hc))) ?_
  exact zvi _ _ _
 ·have ho:(inW ballot 0&&inW slot 1&&Batch.may bat)=true:=ho
  rw[Bool.and_eq_true,Bool.and_eq_true]at ho
  have n1:=zaF ballot (zb7 ho.1.1 (by omega))
  have n2:=zaF slot (zb7 ho.1.2 (by omega))
  have w:IntKind.u8.wrap 5=5:=zbf (by omega) (by omega)
  have hc:=zg4 bat ho.2
  have hl:(zaJ [ballot,slot]++zey bat).length≤1400:=hl
  rw[List.length_append]at hl
  have hle:(17+(zey bat).length≤2^47)=True:=eq_true (by omega)
  refine zL (I qs1 (I qs2 (I qs9 (I zrm (I w (I t8 (I hle (I @zah (I @List.length_map.{0,0} @zaz))))))))) (I (hm) (I (n1) (I (n2) (hc)))) ?_
  exact zqX _ _ _ _
 ·have ho:(inW ballot 0&&inW slot 1&&Batch.may bat)=true:=ho
  rw[Bool.and_eq_true,Bool.and_eq_true]at ho
  have n1:=zaF ballot (zb7 ho.1.1 (by omega))
  have n2:=zaF slot (zb7 ho.1.2 (by omega))
  have w:IntKind.u8.wrap 6=6:=zbf (by omega) (by omega)
  have hc:=zg4 bat ho.2
  have hl:(zaJ [ballot,slot]++zey bat).length≤1400:=hl
  rw[List.length_append]at hl
  have hle:(17+(zey bat).length≤2^47)=True:=eq_true (by omega)
  refine zL (I qs1 (I qs2 (I qs9 (I zrm (I w (I t8 (I hle (I @zah (I @List.length_map.{0,0} @zaz))))))))) (I (hm) (I (n1) (I (n2) (hc)))) ?_
  exact zqX _ _ _ _
 ·have ho:(inW ballot 0&&inW done 0)=true:=ho
  rw[Bool.and_eq_true]at ho
  have n1:=zaF ballot (zb7 ho.1 (by omega))
  have n2:=zaF done (zb7 ho.2 (by omega))
  have w:IntKind.u8.wrap 7=7:=zbf (by omega) (by omega)
  refine zL (I qs1 (I qs2 (I qs9 (I zrm (I w (I t8 (I @zah (I @List.length_map.{0,0} @zaz)))))))) (I (hm) (I (n1) (n2))) ?_
  exact zvj _ _ _
 ·have n1:=zaF done (zb7 (show inW done 0=true from ho) (by omega))
  have w:IntKind.u8.wrap 8=8:=zbf (by omega) (by omega)
  refine zL (I qs1 (I qs2 (I qs9 (I zrm (I w (I t8 (I @zah (I @List.length_map.{0,0} @zaz)))))))) (I (hm) (n1)) ?_
  exact zqY _ _
 ·have hc:=zm3 snap ho
  have w:IntKind.u8.wrap 9=9:=zbf (by omega) (by omega)
  have hl:(snI snap).length≤1400:=hl
  have hle:(1+(snI snap).length≤2^47)=True:=eq_true (by omega)
  refine zL (I qs1 (I qs2 (I qs9 (I zrm (I w (I t8 (I hle (I @zah (I @List.length_map.{0,0} @zaz))))))))) (I (hm) (hc)) ?_
  exact put_eq _ _
 ·simp only[beq_eq_false_iff_ne,ne_eq]at k1 k2 k3 k4 k5 k6 k7 k8 k9
  unfold okP at ho
  simp only[k1,k2,k3,k4,k5,k6,k7,k8,k9,if_false]at ho
  cases ho
def NmS (s:St):Prop:=(∀k∈s.locks,k.name.size<2^62)∧∀m∈s.memos,∀g∈m.reply.held,g.name.size<2^62
theorem zmt {s:St} (hn:NmS s) (h:zhk s=false):Small s:=by
 unfold zhk at h
 split at h
 ·cases h
 ·rename_i h1
  split at h
  ·cases h
  ·rename_i h2
   simp only[Bool.or_eq_true,decide_eq_true_eq,not_or]at h1
   have h2':s.locks.any zvg=false:=by simpa using h2
   rw[List.any_eq_false]at h2' h
   refine⟨by omega,by omega,by omega,fun k hk=>⟨?_,hn.1 k hk⟩,fun m hm=>⟨?_,hn.2 m hm⟩⟩
   ·have:=h2' k hk
    unfold zvg at this
    simp only[Bool.or_eq_true,decide_eq_true_eq,not_or]at this
    omega
   ·have:=h m hm
    unfold zvh at this
    simp only[decide_eq_true_eq]at this
    omega
abbrev zBg (s:Sn):AV:= .agg (di s.done::di s.view::di s.slot::(stE s.st).map C.d)
structure PktT (p:Pkt):Prop where
 k:i64 p.kind
 b:i64 p.ballot
 s:i64 p.slot
 d:i64 p.done
 req:p.req.ok
 ans:∀g∈p.ans.reply.held,g.name.size<2^62
 bat:p.bat.ok
 prom:p.prom.ok
 snap:NmS p.snap.st
theorem znd {b:Batch} (h:zt7 b=false):b.reqs.length<2^30:=by
 unfold zt7 at h
 split at h
 ·cases h
 ·rename_i h1
  simp at h1
  omega
theorem zvP {p:Pkt} (h:PktT p) (hg:zxl p=false):p.ok:=by
 unfold zxl at hg
 simp only[Bool.or_eq_false_iff]at hg
 obtain⟨⟨⟨⟨g1,g2⟩,g3⟩,g4⟩,g5⟩:=hg
 simp at g4
 unfold zxk at g3
 split at g3
 ·cases g3
 ·rename_i h1
  simp at h1
  rw[List.any_eq_false]at g3
  exact⟨h.k,h.b,h.s,h.d,h.req,⟨by omega,h.ans⟩,h.bat,znd g2,h.prom,by omega,fun x hx=>znd (by simpa using g3 x hx),zmt h.snap g1⟩
set_option maxHeartbeats 4000000 in
theorem zkX (p:Pkt) (hp:PktT p):CallOK prog 3 [.f (.agg (p.enc.map C.d))] (fun r o=>r=[rb true]∧o=[]):=by
 refine zh func3 results3 ntmps3 call3 ?_
 simp only[f3,Option.getD]
 have haw:=zo4
 have hg:=zo3 p
 cases eg:zxl p
 case true=>
  rw[eg]at hg
  exact zW trivial (I (haw) (hg))
 case false=>
 rw[eg]at hg
 have ho:=zvP hp eg
 have m1:=zgD p ho
 have m2:=zkF p ho
 rw[zkE]at m2
 cases em:zmm p
 ·rw[em]at m1 m2
  have p1:=zmh p ho em
  have p2:=zo0 p ho em
  exact zW (I @bne_self_eq_false.{0} @beq_self_eq_true.{0}) (I (haw) (I (hg) (I (m1) (I (m2) (I (p1) (p2))))))
 ·rw[em]at m1 m2
  have p1:=ziQ p ho em
  have p2:=zo1 p ho em
  obtain⟨L,hL⟩:∃L,bytesOf (zaa (pkI p))=some L:=⟨_,zdm _⟩
  exact zW (I @bne_self_eq_false.{0} (I @beq_self_eq_true.{0} (I @zah hL))) (I (haw) (I (hg) (I (m1) (I (m2) (I (p1) (p2))))))
theorem zdh {n:Int} (h:(Lit.int .i64 n).wf=true):i64 n:=by
 have h2:(decide (IntKind.i64.min≤n)&&decide (n≤IntKind.i64.max))=true:=h
 have e1:IntKind.i64.min= -9223372036854775808:=by decide
 have e2:IntKind.i64.max=9223372036854775807:=by decide
 rw[e1,e2]at h2
 simp only[Bool.and_eq_true,decide_eq_true_eq]at h2
 unfold i64
 omega
theorem zkR {α:Type} {enc:α→List D} {ok:α→Prop} {s:Sh} (h:∀ds,ShD s ds→∃x,ds=enc x∧ok x):∀xs:List (List D),(∀x∈xs,ShD s x)→∃l:List α,l.length=xs.length∧xs.flatten=l.flatMap enc∧∀x∈l,ok x
 |[],_=>⟨[],rfl,rfl,fun x hx=>by cases hx⟩
 |x::xs,hx=>by
  obtain⟨a,ha1,ha2⟩:=h x (hx x (by simp))
  obtain⟨l,h1,h2,h3⟩:=zkR h xs fun y hy=>hx y (by simp[hy])
  refine⟨a::l,by simp[h1], ?_,fun y hy=> ?_⟩
  ·rw[List.flatten_cons,List.flatMap_cons,h2,ha1]
  ·rcases List.mem_cons.1 hy with rfl|hy
   ·exact ha2
   ·exact h3 y hy
theorem zvB:reachBytes<2^60:=by decide
theorem zcR (ds:List D) (h:ShD (.int .i64) ds):∃x:Int,ds=[iD x]∧i64 x:=by
 simp only[ShD]at h
 obtain⟨n,rfl,hn⟩:=h
 exact⟨n,rfl,zdh hn⟩
abbrev zBe:Sh:= .struct [.int .u8, .int .u8, .int .u8, .int .u8, .int .u8, .int .u8]
def zBf (n:Int):Prop:=0≤n∧n<65536
abbrev wD (n:Int):D:= .v (.int .u16 n)
abbrev aw (n:Int):AV:= .one (.d (wD n))
abbrev zue:Sh:= .struct [.int .i64, .int .i64, .int .i64]
abbrev zAP:Sh:= .struct [.str, .int .i64, .int .i64, .slice 8 (.int .i64)]
abbrev zrn:Sh:= .struct [.str, .int .i64]
abbrev zro:Sh:= .struct [.int .i64, .int .i64, .int .i64, .slice 24 zrn]
abbrev zrp:Sh:= .struct [.int .i64, .int .i64,zro]
abbrev zrq:Sh:= .struct [.int .i64, .int .i64, .int .i64, .slice 24 zue, .slice 56 zAP, .slice 64 zrp]
theorem zgE {α:Type} {enc:α→List D} {ok:α→Prop} {s:Sh} {z:Nat} (h0:∀ds,ShD s ds→∃x,ds=enc x∧ok x) (ds:List D) (h:ShD (.slice z s) ds):∃l:List α,ds=[.sl l.length (l.flatMap enc)]∧∀x∈l,ok x:=by
 rw[ShD]at h
 obtain⟨xs,rfl,hx1,hx2⟩:=h
 obtain⟨l,l1,l2,l3⟩:=zkR h0 xs hx2
 exact⟨l,by rw[←l1,l2],l3⟩
theorem zvz (ds:List D) (h:ShD zue ds):∃x:Sess,ds=x.enc∧True:=by
 simp only[ShD,ShDs]at h
 obtain⟨_,_,rfl,⟨c,rfl,hc⟩,_,_,rfl,⟨q,rfl,hq⟩,_,_,rfl,⟨k,rfl,hk⟩,rfl⟩:=h
 exact⟨⟨c,q,k⟩,rfl,trivial⟩
theorem zBd (ds:List D) (h:ShD (.int .i64) ds):∃x:Int,ds=[iD x]∧True:=by
 obtain⟨x,h1,_⟩:=zcR ds h
 exact⟨x,h1,trivial⟩
theorem zuf (ds:List D) (h:ShD .str ds):∃x:ByteArray,ds=[sD x]∧x.size<2^62:=by
 simp only[ShD]at h
 obtain⟨n,rfl,hn⟩:=h
 have:=zvB
 exact⟨n,rfl,by omega⟩
theorem zx5 (ds:List D) (h:ShD zAP ds):∃x:Lk,ds=x.enc∧x.name.size<2^62:=by
 rw[ShD]at h
 simp only[ShDs]at h
 obtain⟨_,_,rfl,h1,_,_,rfl,h2,_,_,rfl,h3,_,_,rfl,h4,rfl⟩:=h
 obtain⟨a,rfl,ha⟩:=zuf _ h1
 obtain⟨b,rfl,hb⟩:=zcR _ h2
 obtain⟨c,rfl,hc⟩:=zcR _ h3
 obtain⟨d,rfl,hd⟩:=zgE zBd _ h4
 exact⟨⟨a,b,c,d⟩,rfl,ha⟩
theorem ztf (ds:List D) (h:ShD zrn ds):∃x:Grant,ds=x.enc∧x.name.size<2^62:=by
 rw[ShD]at h
 simp only[ShDs]at h
 obtain⟨_,_,rfl,h1,_,_,rfl,h2,rfl⟩:=h
 obtain⟨a,rfl,ha⟩:=zuf _ h1
 obtain⟨b,rfl,hb⟩:=zcR _ h2
 exact⟨⟨a,b⟩,rfl,ha⟩
theorem ztg (ds:List D) (h:ShD zro ds):∃x:Reply,ds=x.enc∧∀g∈x.held,g.name.size<2^62:=by
 rw[ShD]at h
 simp only[ShDs]at h
 obtain⟨_,_,rfl,h1,_,_,rfl,h2,_,_,rfl,h3,_,_,rfl,h4,rfl⟩:=h
 obtain⟨a,rfl,ha⟩:=zcR _ h1
 obtain⟨b,rfl,hb⟩:=zcR _ h2
 obtain⟨c,rfl,hc⟩:=zcR _ h3
 obtain⟨d,rfl,hd⟩:=zgE ztf _ h4
 exact⟨⟨a,b,c,d⟩,rfl,hd⟩
theorem zrr (ds:List D) (h:ShD zrp ds):∃x:Memo,ds=x.enc∧∀g∈x.reply.held,g.name.size<2^62:=by
 rw[ShD]at h
 simp only[ShDs]at h
 obtain⟨_,_,rfl,h1,_,_,rfl,h2,_,_,rfl,h3,rfl⟩:=h
 obtain⟨a,rfl,ha⟩:=zcR _ h1
 obtain⟨b,rfl,hb⟩:=zcR _ h2
 obtain⟨c,rfl,hc⟩:=ztg _ h3
 exact⟨⟨a,b,c⟩,by simp[Memo.enc],hc⟩
theorem zth (ds:List D) (h:ShD zrq ds):∃s:St,ds=stE s∧NmS s:=by
 rw[ShD]at h
 simp only[ShDs]at h
 obtain⟨_,_,rfl,h1,_,_,rfl,h2,_,_,rfl,h3,_,_,rfl,h4,_,_,rfl,h5,_,_,rfl,h6,rfl⟩:=h
 obtain⟨a,rfl,ha⟩:=zcR _ h1
 obtain⟨b,rfl,hb⟩:=zcR _ h2
 obtain⟨c,rfl,hc⟩:=zcR _ h3
 obtain⟨d,rfl,hd⟩:=zgE zvz _ h4
 obtain⟨e,rfl,he⟩:=zgE zx5 _ h5
 obtain⟨f,rfl,hf⟩:=zgE zrr _ h6
 exact⟨⟨a,b,c,d,e,f⟩,rfl,he,hf⟩
abbrev zug:Sh:= .struct [.int .i64, .struct [.int .i64, .int .i64],zrq]
theorem zvA (ds:List D) (h:ShD zug ds):∃s:Sn,ds=iD s.done::iD s.view::iD s.slot::stE s.st∧NmS s.st:=by
 rw[ShD]at h
 simp only[ShDs]at h
 obtain⟨_,_,rfl,h1,_,_,rfl,h2,_,_,rfl,h3,rfl⟩:=h
 obtain⟨a,rfl,ha⟩:=zcR _ h1
 rw[ShD]at h2
 simp only[ShDs]at h2
 obtain⟨_,_,rfl,h4,_,_,rfl,h5,rfl⟩:=h2
 obtain⟨b,rfl,hb⟩:=zcR _ h4
 obtain⟨c,rfl,hc⟩:=zcR _ h5
 obtain⟨d,rfl,hd⟩:=zth _ h3
 exact⟨⟨a,b,c,d⟩,by simp,hd⟩
abbrev zuh:Sh:= .struct [.int .i64, .int .i64, .struct [.int .i64, .int .i64, .str]]
abbrev zms:Sh:= .struct [.bool, .int .i64, .struct [.int .i64, .int .i64], .int .i64, .slice 48 zuh]
abbrev zti:Sh:= .struct [.int .i64, .int .i64,zms]
abbrev zkW:Sh:= .struct [.int .i64, .int .i64, .struct [.int .i64, .int .i64], .int .i64, .slice 80 zti]
theorem ztj (ds:List D) (h:ShD zuh ds):∃r:Req,ds=r.enc∧r.ok:=by
 simp only[ShD,ShDs]at h
 obtain⟨_,_,rfl,⟨c,rfl,hc⟩,_,_,rfl,⟨q,rfl,hq⟩,_,_,rfl,⟨_,_,rfl,⟨k,rfl,hk⟩,_,_,rfl,⟨n,rfl,hn⟩,_,_,rfl,⟨s,rfl,hs⟩,rfl⟩,rfl⟩:=h
 exact⟨⟨c,q,k,n,s⟩,rfl,zdh hc,zdh hq,zdh hk,zdh hn,Nat.lt_of_le_of_lt hs (by decide)⟩
theorem zpd {sh:Sh} (hsh:∀ds,ShD sh ds→∃r:Req,ds=r.enc∧r.ok) (ds:List D) (h:ShD (.struct [.bool, .int .i64, .struct [.int .i64, .int .i64], .int .i64, .slice 48 sh]) ds):∃b:Batch,ds=b.enc∧b.ok:=by
 simp only[ShD,ShDs]at h
 obtain⟨_,_,rfl,h1,_,_,rfl,h2,_,_,rfl,h3,_,_,rfl,h4,_,_,rfl,h5,rfl⟩:=h
 obtain⟨f,rfl⟩:=h1
 obtain⟨v,rfl,hv⟩:=h2
 obtain⟨_,_,rfl,⟨tv,rfl,htv⟩,_,_,rfl,⟨ts,rfl,hts⟩,rfl⟩:=h3
 obtain⟨t,rfl,ht⟩:=h4
 obtain⟨xs,rfl,hx1,hx2⟩:=h5
 obtain⟨l,l1,l2,l3⟩:=zkR hsh xs hx2
 have hlt:l.length<2^42:=by
  have:reachBytes<48*2^42:=by decide
  omega
 refine⟨⟨f,v,⟨tv,ts⟩,t,l⟩, ?_,zdh hv,zdh htv,zdh hts,zdh ht,hlt,l3⟩
 rw[←l1,l2]
 rfl
theorem znc (ds:List D) (h:ShD zms ds):∃b:Batch,ds=b.enc∧b.ok:=zpd ztj ds h
theorem zrz {sh:Sh} (hsh:∀ds,ShD sh ds→∃b:Batch,ds=b.enc∧b.ok) (ds:List D) (h:ShD (.struct [.int .i64, .int .i64,sh]) ds):∃v:Vote,ds=v.enc∧v.ok:=by
 simp only[ShD,ShDs]at h
 obtain⟨_,_,rfl,h1,_,_,rfl,h2,_,_,rfl,h3,rfl⟩:=h
 obtain⟨s,rfl,hs⟩:=h1
 obtain⟨b,rfl,hb⟩:=h2
 obtain⟨c,rfl,hc⟩:=hsh _ h3
 exact⟨⟨s,b,c⟩,rfl,zdh hs,zdh hb,hc⟩
theorem zui (ds:List D) (h:ShD zti ds):∃v:Vote,ds=v.enc∧v.ok:=zrz znc ds h
theorem zrA {sh:Sh} (hsh:∀ds,ShD sh ds→∃v:Vote,ds=v.enc∧v.ok) (ds:List D) (h:ShD (.struct [.int .i64, .int .i64, .struct [.int .i64, .int .i64], .int .i64, .slice 80 sh]) ds):∃p:Prom,ds=p.enc∧p.ok:=by
 simp only[ShD,ShDs]at h
 obtain⟨_,_,rfl,h1,_,_,rfl,h2,_,_,rfl,h3,_,_,rfl,h4,_,_,rfl,h5,rfl⟩:=h
 obtain⟨f,rfl,hf⟩:=h1
 obtain⟨v,rfl,hv⟩:=h2
 obtain⟨_,_,rfl,⟨tv,rfl,htv⟩,_,_,rfl,⟨ts,rfl,hts⟩,rfl⟩:=h3
 obtain⟨t,rfl,ht⟩:=h4
 obtain⟨xs,rfl,hx1,hx2⟩:=h5
 obtain⟨l,l1,l2,l3⟩:=zkR hsh xs hx2
 have hlt:l.length<2^42:=by
  have:reachBytes<80*2^42:=by decide
  omega
 refine⟨⟨f,v,⟨tv,ts⟩,t,l⟩, ?_,zdh hf,zdh hv,zdh htv,zdh hts,zdh ht,hlt,l3⟩
 rw[←l1,l2]
 rfl
theorem zuj (ds:List D) (h:ShD zkW ds):∃p:Prom,ds=p.enc∧p.ok:=zrA zui ds h
abbrev zrB:Sh:= .struct [.int .i64, .int .i64, .int .i64, .int .i64,zuh,zrp,zms,zkW,zug]
theorem zvO (ds:List D) (h:ShD zrB ds):∃p:Pkt,ds=p.enc∧PktT p:=by
 rw[ShD]at h
 simp only[ShDs]at h
 obtain⟨_,_,rfl,h1,_,_,rfl,h2,_,_,rfl,h3,_,_,rfl,h4,_,_,rfl,h5,_,_,rfl,h6,_,_,rfl,h7,_,_,rfl,h8,_,_,rfl,h9,rfl⟩:=h
 obtain⟨a,rfl,ha⟩:=zcR _ h1
 obtain⟨b,rfl,hb⟩:=zcR _ h2
 obtain⟨c,rfl,hc⟩:=zcR _ h3
 obtain⟨d,rfl,hd⟩:=zcR _ h4
 obtain⟨e,rfl,he⟩:=ztj _ h5
 obtain⟨f,rfl,hf⟩:=zrr _ h6
 obtain⟨g,rfl,hg⟩:=znc _ h7
 obtain⟨i,rfl,hi⟩:=zuj _ h8
 obtain⟨j,rfl,hj⟩:=zvA _ h9
 exact⟨⟨a,b,c,d,e,f,g,i,j⟩,by simp,ha,hb,hc,hd,he,hf,hg,hi,hj⟩
end Go.Proofs.YtliimajkpggbhaaGreat
