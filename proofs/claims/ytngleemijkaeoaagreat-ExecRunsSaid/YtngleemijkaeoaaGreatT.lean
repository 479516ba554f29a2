import Derived.Test.YtngleemijkaeoaaGreatK9
import Derived.Test.YtngleemijkaeoaaGreatM
namespace Go.Proofs.YtngleemijkaeoaaGreat
open Go.Pk
set_option maxRecDepth 100000
set_option linter.unusedSimpArgs false
set_option linter.unusedVariables false
def zpi (a b:ByteArray):Int:=Lib.compareBytes a.data.toList b.data.toList
theorem zoy {a b:ByteArray}:zpi a b<0↔zdh a b=true:=by
 unfold zpi zdh
 rw[zcs,zdc,zdc]
 split
 ·simp[*]
 ·split<;>simp[*]
theorem zoz {a b:ByteArray}:(zpi a b==0)=(a.toList==b.toList):=by
 unfold zpi
 rw[zcs,←zdc,←zdc,Bool.eq_iff_iff]
 simp only[beq_iff_eq]
 constructor
 ·intro h
  split at h
  ·cases h
  ·split at h
   ·cases h
   ·rename_i h1 h2
    exact zk6 (by simpa using h1) (by simpa using h2)
 ·intro h
  rw[h,zgp];simp
theorem zjY (a b:ByteArray):CallOK Tryz.prog 172 [.f (ast a), .f (ast b)] (fun r o=>r=[ri (zpi a b)]∧o=[]):=by
 refine zac zar mixed (T:=Ty) (n:=8) Tryz.func172 (c:=Tryz.f172.body.getD .skip) rfl Tryz.results172 Tryz.ntmps172 Tryz.call172 ?_
 simp only[Tryz.f172,Option.getD]
 repeat'(first|refine zq0 ?_|exact zd0|(refine zaa ?_ ?_<;>intro hb)|(refine And.intro ?_ ?_;exact zI)|(refine And.intro ?_ ?_<;>intro hg)|exact zC|fail)
 refine zf5 (znB Tryz.func179 (by kernel_rfl) (by kernel_rfl) (by kernel_rfl) (by kernel_rfl) rfl rfl rfl rfl) ?_
 repeat'(first|refine zq0 ?_|exact zd0|(refine zaa ?_ ?_<;>intro hb)|(refine And.intro ?_ ?_;exact zI)|(refine And.intro ?_ ?_<;>intro hg)|exact zC|fail)
 rfl
theorem zfh (a b:ByteArray):CallOK Tryz.prog 157 [.f (ast a), .f (ast b)] (fun r o=>r=[ri (zpi a b)]∧o=[]):=by
 refine zac zar mixed (T:=Ty) (n:=8) Tryz.func157 (c:=Tryz.f157.body.getD .skip) rfl Tryz.results157 Tryz.ntmps157 Tryz.call157 ?_
 simp only[Tryz.f157,Option.getD]
 repeat'(first|refine zq0 ?_|exact zd0|refine zc (zjY a b) ?_|refine zg (zjY a b) ?_|(refine zaa ?_ ?_<;>intro hb)|(refine And.intro ?_ ?_;exact zI)|(refine And.intro ?_ ?_<;>intro hg)|exact zC|fail)
theorem zmM (k:Lk) (s:ByteArray):CallOK Tryz.prog 156 [.f (zqG k), .f (ast s)] (fun r o=>r=[ri (zpi k.name s)]∧o=[]):=by
 refine zac zar mixed (T:=Ty) (n:=9) Tryz.func156 (c:=Tryz.f156.body.getD .skip) rfl Tryz.results156 Tryz.ntmps156 Tryz.call156 ?_
 simp only[Tryz.f156,Option.getD]
 repeat'(first|refine zq0 ?_|exact zd0|refine zc (zfh k.name s) ?_|refine zg (zfh k.name s) ?_|(refine zaa ?_ ?_<;>intro hb)|(refine And.intro ?_ ?_;exact zI)|(refine And.intro ?_ ?_<;>intro hg)|exact zC|fail)
theorem zjZ (l:List Lk) (hs:SL l) (hl:l.length<2^62) (s:ByteArray):CallOK Tryz.prog 122 [.f (al l.length (zah l)), .f (ast s)] (fun r o=>r=[ri (za9 l s),rb (zcc l s).isSome]∧o=[]):=by
 refine zac zar mixed (T:=Ty) (n:=11) Tryz.func122 (c:=Tryz.f122.body.getD .skip) rfl Tryz.results122 Tryz.ntmps122 Tryz.call122 ?_
 simp only[Tryz.f122,Option.getD]
 have h:=zi6 l hl s (fun x=>zpi x.name s) 156 (za9 l s) zb9
  (fun j hj h=>zoy.2 (zfs hj h))
  (fun j hj h=>by
   have h1:=zft hj (zhY hs s) h
   have h2:= @zoy l[j].name s
   rw[h1]at h2
   have h3:¬zpi l[j].name s<0:=by rw[h2];simp
   omega) (fun x _=>zmM x s)
 have e:((l[za9 l s]?.map fun x=>zpi x.name s==0).getD false)=(zcc l s).isSome:=by
  rw[ziY hs,ziA]
  simp only[zoz]
  rfl
 rw[e]at h
 repeat'(first|refine zq0 ?_|exact zd0|refine zc (h) ?_|refine zg (h) ?_|(refine zaa ?_ ?_<;>intro hb)|(refine And.intro ?_ ?_;exact zI)|(refine And.intro ?_ ?_<;>intro hg)|exact zC|fail)
theorem zfE (l:List Lk) (hl:l.length<2^30) (hll:∀k∈l,k.line.length<2^30):CallOK Tryz.prog 113 [.f (al l.length (zah l))] (fun r o=>r=[.one (.own 4 l.length (zah l) false)]∧o=[]):=by
 refine zac zar mixed (T:=Ty) (n:=24) Tryz.func113 (c:=Tryz.f113.body.getD .skip) rfl Tryz.results113 Tryz.ntmps113 Tryz.call113 ?_
 simp only[Tryz.f113,Option.getD]
 have hcn:=zfu l.length (zah l) zad (by omega)
 repeat'(first|refine zq @zad ?_|exact zd @zad|refine zc (hcn) ?_|refine zg (hcn) ?_|(refine zaa ?_ ?_<;>intro hb)|(refine And.intro ?_ ?_;exact zI)|(refine And.intro ?_ ?_<;>intro hg)|exact zC|fail)
 refine zao (τ:=Nat) (fun i=>⟨[dd,dd,dd, .one (.own ⟨3,1,1⟩ 0 l.length),dd,dd,dd,dd,ai l.length,ai i,dd,dd,dd,dd,dd,dd,dd,dd,dd,dd,dd,dd,dd,dd],[(6,⟨2,[]⟩),(3,{next:=2,l:=[none,some {e:=1,var:=false,fz:=false,sz:=4,cells:=(zah l).map C.d}]}),(19,⟨2,[]⟩)]⟩)
  (fun i=>i≤l.length) (fun _=>()) (fun i=>l.length - i) 0
  (Gh.canon [3] [19] [] zK rfl rfl) (Nat.zero_le _) ?_
 intro i hi0 hF K hK
 refine zw ?_
 refine zaa (fun hlt=> ?_) (fun hge=> ?_)
 ·have hi:i<l.length:=by simpa using hlt
  have hat:=zaJ hi
  have hat2:(zah l).drop (i*4+3)= .sl l[i].line.length (zat l[i].line)::zah (l.drop (i+1)):=by rw[←List.drop_drop,hat];rfl
  have hw:=zan hi (by omega)
  have hci:=zcS l[i].line.length (zat l[i].line) zaf (by have:=hll _ (List.getElem_mem hi);omega)
  have hset:=zbP Lk.enc 4 (fun _=>rfl) hi (k:=3) (by decide) (.sl l[i].line.length (zat l[i].line)) l[i] rfl
  rw[List.set_getElem_self]at hset
  repeat'(first|refine zq (I hat2 (I hset (I @zmd (I @List.map_cons.{0,0} @zad)))) ?_|exact zd (I hat2 (I hset (I @zmd (I @List.map_cons.{0,0} @zad))))|refine zc (hci) ?_|refine zg (hci) ?_|(refine zaa ?_ ?_<;>intro hb)|(refine And.intro ?_ ?_;exact zI)|(refine And.intro ?_ ?_<;>intro hg)|exact zC|fail)
  exact hK _ (i+1) (Gh.canon [3] [] [] (zk hw) rfl rfl) hi rfl (by omega)
 ·have hi:i=l.length:=by
   have:¬(i:Int)<l.length:=by simpa using hge
   omega
  repeat'(first|refine zq0 ?_|exact zd0|(refine zaa ?_ ?_<;>intro hb)|(refine And.intro ?_ ?_;exact zI)|(refine And.intro ?_ ?_<;>intro hg)|exact zC|fail)
theorem zsg (l:List Int) (hl:l.length<2^30):CallOK Tryz.prog 148 [.f (al l.length (zat l))] (fun r o=>r=[ri (l.headD 0),zeC l.tail,rb (!l.isEmpty)]∧o=[]):=by
 refine CallOK.nil ?_
 refine zac zar mixed (T:=Ty) (n:=14) Tryz.func148 (c:=Tryz.f148.body.getD .skip) rfl Tryz.results148 Tryz.ntmps148 Tryz.call148 ?_
 simp only[Tryz.f148,Option.getD]
 cases l with
 |nil=>
  have h0:(((0:Nat):Int)==0)=true:=rfl
  repeat'(first|refine zq (I @List.length_nil.{0} h0) ?_|exact zd (I @List.length_nil.{0} h0)|(refine zaa ?_ ?_<;>intro hb)|(refine And.intro ?_ ?_;exact zI)|(refine And.intro ?_ ?_<;>intro hg)|exact zC|fail)
  simp[zeW,zeC,zaY]
 |cons c l=>
  have h0:(((l.length+1:Nat):Int)==0)=false:=by simp;omega
  have hcn:=zcS l.length (zat l) zaf (by simp at hl;omega)
  have hn:l.length+1 - 1=l.length:=rfl
  repeat'(first|refine zq (I @List.length_cons.{0} (I h0 (I hn (I @zaf (I @List.flatMap_cons.{0,0} zca))))) ?_|exact zd (I @List.length_cons.{0} (I h0 (I hn (I @zaf (I @List.flatMap_cons.{0,0} zca)))))|refine zc (hcn) ?_|refine zg (hcn) ?_|(refine zaa ?_ ?_<;>intro hb)|(refine And.intro ?_ ?_;exact zI)|(refine And.intro ?_ ?_<;>intro hg)|exact zC|fail)
  simp[zeW,zeC,zaY]
theorem ziy (l:List Lk) (hl:l.length<2^30) (c:Int):CallOK Tryz.prog 85 [.f (al l.length (zah l)), .f (ai c)] (fun r o=>r=[.one (.own 2 (za7 l c).length (zaG (za7 l c)) false)]∧o=[]):=by
 refine CallOK.nil ?_
 refine zac zar mixed (T:=Ty) (n:=28) Tryz.func85 (c:=Tryz.f85.body.getD .skip) rfl Tryz.results85 Tryz.ntmps85 Tryz.call85 ?_
 simp only[Tryz.f85,Option.getD]
 repeat'(first|refine zq @zad ?_|exact zd @zad|(refine zaa ?_ ?_<;>intro hb)|(refine And.intro ?_ ?_;exact zI)|(refine And.intro ?_ ?_<;>intro hg)|exact zC|fail)
 refine zao (τ:=Nat×List Grant) (fun t=>⟨[dd,ai c,dd,dd,dd, .one (.own ⟨5,1,1⟩ 0 t.2.length),dd,dd,al l.length (zah l),ai l.length,ai t.1,dd,dd,dd,dd,dd,dd,dd,dd,dd,dd,dd,dd,dd,dd,dd,dd,dd],[(5,{next:=2,l:=[none,some {e:=1,var:=false,fz:=false,sz:=2,cells:=(zaG t.2).map C.d}]}),(7,⟨2,[]⟩),(24,⟨2,[]⟩),(25,⟨2,[]⟩)]⟩)
  (fun t=>t.1≤l.length∧t.2.length≤t.1) (fun t=>t.2++za7 (l.drop t.1) c) (fun t=>l.length - t.1) (0,[])
  ((Gh.nil (i:=5) (s:=5) (sz:=2) rfl).trans (Gh.canon [5] [7,24,25] [] zK rfl rfl)) ⟨Nat.zero_le _,Nat.zero_le _⟩ ?_
 intro⟨i,acc⟩ ⟨hi0,ha⟩ hF K hK
 simp only[List.drop_zero,List.nil_append]at hi0 ha hF hK⊢
 refine zw ?_
 refine zaa (fun hlt=> ?_) (fun hge=> ?_)
 ·have hi:i<l.length:=by simpa using hlt
  have hat:=zaJ hi
  have hw:=zan hi (by omega)
  have hFs:za7 (l.drop i) c=if(l[i].holder==c)=true then⟨l[i].name,l[i].token⟩::za7 (l.drop (i+1)) c else za7 (l.drop (i+1)) c:=by
   unfold za7
   rw[List.drop_eq_getElem_cons hi,List.filter_cons]
   split<;>simp
  cases hb:l[i].holder==c
  ·rw[hb,if_neg (by simp)]at hFs
   repeat'(first|refine zq (I hat (I hb (I @zad zca))) ?_|exact zd (I hat (I hb (I @zad zca)))|(refine zaa ?_ ?_<;>intro hb)|(refine And.intro ?_ ?_;exact zI)|(refine And.intro ?_ ?_<;>intro hg)|exact zC|fail)
   exact hK _ (i+1,acc) (Gh.canon [5] [] [] (zk hw) rfl rfl) ⟨hi,by simp only;omega⟩ (by simp only;rw[hFs]) (by simp only;omega)
  ·rw[hb,if_pos rfl]at hFs
   repeat'(first|refine zq (I hat (I hb (I @zad zca))) ?_|exact zd (I hat (I hb (I @zad zca)))|(refine zaa ?_ ?_<;>intro hb)|(refine And.intro ?_ ?_;exact zI)|(refine And.intro ?_ ?_<;>intro hg)|exact zC|fail)
   exact hK _ (i+1,acc++[⟨l[i].name,l[i].token⟩]) (Gh.canon [5] [] [] (zk (I hw (I @List.length_append.{0} @List.length_singleton.{0}))) rfl (by simp only[List.length_append,List.length_singleton];rw[zfM];rfl)) ⟨hi,by simp only[List.length_append,List.length_singleton];omega⟩ (by simp only[List.append_assoc,List.singleton_append];rw[hFs]) (by simp only;omega)
 ·have hi:i=l.length:=by
   have:¬(i:Int)<l.length:=by simpa using hge
   omega
  rw[hi,List.drop_length,show za7 [] c=[] from rfl,List.append_nil]at hF
  rw[←hF]
  repeat'(first|refine zq0 ?_|exact zd0|(refine zaa ?_ ?_<;>intro hb)|(refine And.intro ?_ ?_;exact zI)|(refine And.intro ?_ ?_<;>intro hg)|exact zC|fail)
  simp[zgZ,zaY]
theorem zoA (l:List Lk) (i:Nat) (hi:i<l.length) (hl:l.length<2^30) (hll:∀k∈l,k.line.length<2^30) (t:Int) (ht:0≤t∧t<2^62):
  CallOK Tryz.prog 115 [.row 4 l.length (zah l), .f (ai i), .f (ai t)]
  (fun r o=>r=[.one (.own 4 (zco l i l[i] t).1.length (zah (zco l i l[i] t).1) true),ri (zco l i l[i] t).2]∧o=[[]]):=by
 refine zac zar mixed (T:=Ty) (n:=42) Tryz.func115 (c:=Tryz.f115.body.getD .skip) rfl Tryz.results115 Tryz.ntmps115 Tryz.call115 ?_
 simp only[Tryz.f115,Option.getD]
 have hat:=zaJ hi
 simp only[List.cons_append,List.nil_append]at hat
 have hat2:(zah l).drop (i*4+3)= .sl l[i].line.length (zat l[i].line)::zah (l.drop (i+1)):=by rw[←List.drop_drop,hat];rfl
 have hnx:=zsg l[i].line (hll _ (List.getElem_mem hi))
 have hw:=zan hi (by omega)
 have hwt:IntKind.i64.wrap (t+1)=t+1:=wrap64 (by omega) (by omega)
 cases hline:l[i].line with
 |nil=>
  rw[hline]at hnx
  simp only[List.headD_nil,List.tail_nil,List.isEmpty_nil]at hnx
  rw[hline]at hat2
  obtain⟨n,hn⟩:∃n,l.length=n+1:=⟨l.length - 1,by omega⟩
  have hdl:=zml n i (zah l) (by rw[zad,hn]) (by omega) (by omega)
  rw[←hn]at hdl
  repeat'(first|(with_reducible first|refine zab _ _ ?_|refine zaP ?_|refine zaQ ?_)|rw[zak]|simp only[hat2,hw,hwt,←List.map_drop,List.map_cons,zad,zeC,zY,Int.reduceEq,Int.reduceBEq,Int.reduceBNe,Nat.reduceSub,Nat.reduceEqDiff,Nat.reduceAdd,Nat.reduceMul,Nat.reduceLeDiff,Nat.reduceLT,Nat.reduceBEq,reduceCtorEq]|((first|((try refine zaz ?_);apply zaD)|(apply zaB;intro _));(solve|exact(hnx)|(refine CallOK.le (hnx) ?_;exact zM)|fail);try case hn=>rfl)|refine zam ?_|refine zaa (fun hb=> ?_) (fun hb=> ?_)|(refine And.intro ?_ ?_;exact zI)|refine And.intro (fun hg=> ?_) (fun hg=> ?_)|exact zC|fail)
  refine zbK (mv:= ?mv1) (lent:= ?le1) 0 ?ha1 (hdl) ?hb1 ?hc1
  case ha1=>(try simp only[zB,zaE,Nat.reduceSub,Nat.reduceEqDiff,Nat.reduceAdd,Nat.reduceMul,Nat.reduceLeDiff,Nat.reduceLT,Nat.reduceBEq,reduceCtorEq]);exact rfl
  case hb1=>(try simp only[zB,scM,Nat.reduceSub,Nat.reduceEqDiff,Nat.reduceAdd,Nat.reduceMul,Nat.reduceLeDiff,Nat.reduceLT,Nat.reduceBEq,reduceCtorEq]);repeat'(first|rfl|trivial|omega|with_reducible refine And.intro ?_ ?_)
  show aops _ _ _ _ _ _ _ _
  repeat'(first|refine zq0 ?_|exact zd0|(refine zaa ?_ ?_<;>intro hb)|(refine And.intro ?_ ?_;exact zI)|(refine And.intro ?_ ?_<;>intro hg)|exact zC|fail)
  have hp:zco l i l[i] t=(l.eraseIdx i,0):=by unfold zco;rw[hline]
  rw[hp]
  have h1:=zi1 Lk.enc 4 (fun _=>rfl) hi
  have h2:=zi2 hi
  simp only[h1,h2,show l.length - 1=n by omega]
 |cons c rest=>
  rw[hline]at hnx
  simp only[List.headD_cons,List.tail_cons,List.isEmpty_cons]at hnx
  rw[hline]at hat2
  have hset:=zd9 Lk.enc 4 (fun _=>rfl) hi ⟨l[i].name,c,t+1,rest⟩
  simp only[fillAt,List.map_cons,List.map_nil]at hset
  have hp:zco l i l[i] t=(l.set i ⟨l[i].name,c,t+1,rest⟩,1):=by unfold zco;rw[hline]
  rw[hp]
  repeat'(first|(with_reducible first|refine zab _ _ ?_|refine zaP ?_|refine zaQ ?_)|rw[zak]|simp only[hat,hat2,hw,hwt,hset,←List.map_drop,List.map_cons,zad,zeC,zY,Int.reduceEq,Int.reduceBEq,Int.reduceBNe,Nat.reduceSub,Nat.reduceEqDiff,Nat.reduceAdd,Nat.reduceMul,Nat.reduceLeDiff,Nat.reduceLT,Nat.reduceBEq,reduceCtorEq]|((first|((try refine zaz ?_);apply zaD)|(apply zaB;intro _));(solve|exact(hnx)|(refine CallOK.le (hnx) ?_;exact zM)|fail);try case hn=>rfl)|refine zam ?_|refine zaa (fun hb=> ?_) (fun hb=> ?_)|(refine And.intro ?_ ?_;exact zI)|refine And.intro (fun hg=> ?_) (fun hg=> ?_)|exact zC|fail)
  rw[List.length_set]
theorem zsh (l:List Lk) (hs:SL l) (hl:l.length<2^30) (hll:∀k∈l,k.line.length<2^30) (name:ByteArray) (c t:Int) (ht:0≤t∧t<2^62) (w:Bool):
  CallOK Tryz.prog 83 [.f (al l.length (zah l)), .f (ast name), .f (ai c), .f (ai t), .f (ab w)]
  (fun r o=>r=[.one (.own 4 (zaH l name c t w).1.length (zah (zaH l name c t w).1) false),ri (zaH l name c t w).2.1,ri (zaH l name c t w).2.2]∧o=[]):=by
 refine CallOK.nil ?_
 refine zac zar mixed (T:=Ty) (n:=96) Tryz.func83 (c:=Tryz.f83.body.getD .skip) rfl Tryz.results83 Tryz.ntmps83 Tryz.call83 ?_
 simp only[Tryz.f83,Option.getD]
 have hp:=zjZ l hs (by omega) name
 have hco:=zfE l hl hll
 have hwt:IntKind.i64.wrap (t+1)=t+1:=wrap64 (by omega) (by omega)
 cases hf:zcc l name with
 |none=>
  rw[hf]at hp
  simp only[Option.isSome_none]at hp
  have hin:=zmm l.length (za9 l name) (zah l) [sD name,iD c,iD (t+1), .sl 0 []] zad rfl zb9 hl
  have htk:zaH l name c t w=if decide ((l.length:Int)≥4)=true then([],0,5)else(l.take (za9 l name)++⟨name,c,t+1,[]⟩::l.drop (za9 l name),0,0):=by unfold zaH;rw[hf]
  rw[htk]
  have hti:=zkz Lk.enc 4 (fun _=>rfl) (l:=l) (k:=za9 l name) zb9 ⟨name,c,t+1,[]⟩
  have htl:=zh0 (l:=l) (k:=za9 l name) zb9 ⟨name,c,t+1,[]⟩
  cases h4:decide ((l.length:Int)≥4)
  ·rw[if_neg (by simp)]
   simp only[hti,htl]
   repeat'(first|refine zq (I hwt (I h4 @zad)) ?_|exact zd (I hwt (I h4 @zad))|refine zc (hp) ?_|refine zg (hp) ?_|refine zc (hco) ?_|refine zg (hco) ?_|(refine zaa ?_ ?_<;>intro hb)|(refine And.intro ?_ ?_;exact zI)|(refine And.intro ?_ ?_<;>intro hg)|exact zC|fail)
   refine zbK (mv:= ?mv2) (lent:= ?le2) 0 ?ha2 (hin) ?hb2 ?hc2
   case ha2=>(try simp only[zB,zaE,Nat.reduceSub,Nat.reduceEqDiff,Nat.reduceAdd,Nat.reduceMul,Nat.reduceLeDiff,Nat.reduceLT,Nat.reduceBEq,reduceCtorEq]);exact rfl
   case hb2=>(try simp only[zB,scM,Nat.reduceSub,Nat.reduceEqDiff,Nat.reduceAdd,Nat.reduceMul,Nat.reduceLeDiff,Nat.reduceLT,Nat.reduceBEq,reduceCtorEq]);repeat'(first|rfl|trivial|omega|with_reducible refine And.intro ?_ ?_)
   show aops _ _ _ _ _ _ _ _
   repeat'(first|refine zq0 ?_|exact zd0|(refine zaa ?_ ?_<;>intro hb)|(refine And.intro ?_ ?_;exact zI)|(refine And.intro ?_ ?_<;>intro hg)|exact zC|fail)
   simp[zeW,zaY]
  ·rw[if_pos rfl]
   repeat'(first|refine zq (I h4 @zad) ?_|exact zd (I h4 @zad)|refine zc (hp) ?_|refine zg (hp) ?_|(refine zaa ?_ ?_<;>intro hb)|(refine And.intro ?_ ?_;exact zI)|(refine And.intro ?_ ?_<;>intro hg)|exact zC|fail)
   simp[zeW,zaY]
 |some k=>
  rw[hf]at hp
  simp only[Option.isSome_some]at hp
  obtain⟨⟨hi,he⟩,hn⟩:=zcd hs hf
  have hat:=zaJ hi
  rw[he]at hat
  simp only[List.cons_append,List.nil_append]at hat
  have hkl:=hll k (he▸List.getElem_mem hi)
  have hah:=zpq k.line (by omega) c
  have hj:=zrx k.line hkl c
  have htk:zaH l name c t w=if(k.holder==c)=true then([],0,7)else if(!w)=true then([],0,8)else
    if hasI k.line c=true then(l,zgn k.line c,10)else
    if((zc7 k.line c).2.2 !=0)=true then([],0,(zc7 k.line c).2.2)else(l.set (za9 l name) ⟨k.name,k.holder,k.token,(zc7 k.line c).1⟩,(zc7 k.line c).2.1,10):=by
   unfold zaH
   rw[hf]
   simp only[bne_iff_ne]
  generalize zaH l name c t w=R at htk⊢
  have hset:=zbP Lk.enc 4 (fun _=>rfl) hi (k:=3) (by decide) (.sl (zc7 k.line c).1.length (zat (zc7 k.line c).1)) ⟨k.name,k.holder,k.token,(zc7 k.line c).1⟩ (by rw[he];rfl)
  repeat'(first|(with_reducible first|refine zab _ _ ?_|refine zaP ?_|refine zaQ ?_)|rw[zak]|simp only[hat,hset,zeC,List.drop_succ_cons,List.drop_zero,zad,zY,Int.reduceEq,Int.reduceBEq,Int.reduceBNe,Nat.reduceSub,Nat.reduceEqDiff,Nat.reduceAdd,Nat.reduceMul,Nat.reduceLeDiff,Nat.reduceLT,Nat.reduceBEq,reduceCtorEq]|((first|((try refine zaz ?_);apply zaD)|(apply zaB;intro _));(solve|exact(hp)|exact(hco)|exact(hah)|exact(hj)|(refine CallOK.le (hp) ?_;exact zM)|(refine CallOK.le (hco) ?_;exact zM)|(refine CallOK.le (hah) ?_;exact zM)|(refine CallOK.le (hj) ?_;exact zM)|fail);try case hn=>rfl)|refine zam ?_|refine zaa (fun hb=> ?_) (fun hb=> ?_)|(refine And.intro ?_ ?_;exact zI)|refine And.intro (fun hg=> ?_) (fun hg=> ?_)|exact zC|fail)
  ·rw[if_pos hb]at htk;rw[htk];simp[zeW,zaY]
  ·rename_i h1
   rw[if_neg (by rw[h1];simp),if_pos hb]at htk;rw[htk];simp[zeW,zaY]
  ·rename_i h1 h2
   rw[if_neg (by rw[h1];simp),if_neg (by rw[h2];simp),if_pos hb]at htk;rw[htk];simp[zeW,zaY,zgn]
  ·rename_i h1 h2 h3
   rw[if_neg (by rw[h1];simp),if_neg (by rw[h2];simp),if_neg (by rw[h3];simp),if_pos hb]at htk;rw[htk];simp[zeW,zaY]
  ·rename_i h1 h2 h3
   rw[if_neg (by rw[h1];simp),if_neg (by rw[h2];simp),if_neg (by rw[h3];simp),if_neg (by rw[hb];simp)]at htk;rw[htk];simp[zeW,zaY]
theorem zsi (l:List Lk) (hs:SL l) (hl:l.length<2^30) (hll:∀k∈l,k.line.length<2^30) (name:ByteArray) (c t:Int) (ht:0≤t∧t<2^62):
  CallOK Tryz.prog 84 [.f (al l.length (zah l)), .f (ast name), .f (ai c), .f (ai t)]
  (fun r o=>r=[.one (.own 4 (za2 l name c t).1.length (zah (za2 l name c t).1) false),ri (za2 l name c t).2.1,ri (za2 l name c t).2.2]∧o=[]):=by
 refine CallOK.nil ?_
 refine zac zar mixed (T:=Ty) (n:=62) Tryz.func84 (c:=Tryz.f84.body.getD .skip) rfl Tryz.results84 Tryz.ntmps84 Tryz.call84 ?_
 simp only[Tryz.f84,Option.getD]
 have hp:=zjZ l hs (by omega) name
 have hco:=zfE l hl hll
 cases hf:zcc l name with
 |none=>
  rw[hf]at hp
  simp only[Option.isSome_none]at hp
  have hfr:za2 l name c t=([],0,6):=by unfold za2;rw[hf]
  rw[hfr]
  repeat'(first|refine zq @zad ?_|exact zd @zad|refine zc (hp) ?_|refine zg (hp) ?_|(refine zaa ?_ ?_<;>intro hb)|(refine And.intro ?_ ?_;exact zI)|(refine And.intro ?_ ?_<;>intro hg)|exact zC|fail)
  simp[zeW,zaY]
 |some k=>
  rw[hf]at hp
  simp only[Option.isSome_some]at hp
  obtain⟨⟨hi,he⟩,hn⟩:=zcd hs hf
  have hat:=zaJ hi
  rw[he]at hat
  simp only[List.cons_append,List.nil_append]at hat
  have hat1:(zah l).drop (za9 l name*4+1)=iD k.holder::iD k.token:: .sl k.line.length (zat k.line)::zah (l.drop (za9 l name+1)):=by rw[←List.drop_drop,hat];rfl
  have hat3:(zah l).drop (za9 l name*4+3)= .sl k.line.length (zat k.line)::zah (l.drop (za9 l name+1)):=by rw[←List.drop_drop,hat];rfl
  have hkl:=hll k (he▸List.getElem_mem hi)
  have hps:=zoA l (za9 l name) hi hl hll t ht
  rw[he]at hps
  have hlv:=zpr k.line hkl c
  have hset:=zbP Lk.enc 4 (fun _=>rfl) hi (k:=3) (by decide) (.sl (zce k.line c).1.length (zat (zce k.line c).1)) ⟨k.name,k.holder,k.token,(zce k.line c).1⟩ (by rw[he];rfl)
  have hlb:(zce k.line c).2=hasI k.line c:=by
   unfold zce hasI
   have:=zdB (fun x=>c==x) k.line
   split
   ·rename_i h;rw[←this];simp;omega
   ·rename_i h;rw[←this];simp;omega
  have hfr:za2 l name c t=if(k.holder==c)=true then((zco l (za9 l name) k t).1,(zco l (za9 l name) k t).2,0)else
    if hasI k.line c=true then(l.set (za9 l name) ⟨k.name,k.holder,k.token,(zce k.line c).1⟩,0,0)else([],0,6):=by unfold za2;rw[hf]
  rw[hfr]
  rw[hlb]at hlv
  cases hh:k.holder==c
  ·rw[if_neg (by simp)]
   cases hi:hasI k.line c
   ·rw[hi]at hlv
    rw[if_neg (by simp)]
    repeat'(first|(with_reducible first|refine zab _ _ ?_|refine zaP ?_|refine zaQ ?_)|rw[zak]|simp only[hat1,hat3,hh,←List.map_drop,List.map_cons,hset,zeC,zad,zY,Int.reduceEq,Int.reduceBEq,Int.reduceBNe,Nat.reduceSub,Nat.reduceEqDiff,Nat.reduceAdd,Nat.reduceMul,Nat.reduceLeDiff,Nat.reduceLT,Nat.reduceBEq,reduceCtorEq]|((first|((try refine zaz ?_);apply zaD)|(apply zaB;intro _));(solve|exact(hp)|exact(hco)|exact(hlv)|(refine CallOK.le (hp) ?_;exact zM)|(refine CallOK.le (hco) ?_;exact zM)|(refine CallOK.le (hlv) ?_;exact zM)|fail);try case hn=>rfl)|refine zam ?_|refine zaa (fun hb=> ?_) (fun hb=> ?_)|(refine And.intro ?_ ?_;exact zI)|refine And.intro (fun hg=> ?_) (fun hg=> ?_)|exact zC|fail)
    simp[zeW,zaY]
   ·rw[hi]at hlv
    rw[if_pos rfl]
    repeat'(first|(with_reducible first|refine zab _ _ ?_|refine zaP ?_|refine zaQ ?_)|rw[zak]|simp only[hat1,hat3,hh,←List.map_drop,List.map_cons,hset,zeC,zad,zY,Int.reduceEq,Int.reduceBEq,Int.reduceBNe,Nat.reduceSub,Nat.reduceEqDiff,Nat.reduceAdd,Nat.reduceMul,Nat.reduceLeDiff,Nat.reduceLT,Nat.reduceBEq,reduceCtorEq]|((first|((try refine zaz ?_);apply zaD)|(apply zaB;intro _));(solve|exact(hp)|exact(hco)|exact(hlv)|(refine CallOK.le (hp) ?_;exact zM)|(refine CallOK.le (hco) ?_;exact zM)|(refine CallOK.le (hlv) ?_;exact zM)|fail);try case hn=>rfl)|refine zam ?_|refine zaa (fun hb=> ?_) (fun hb=> ?_)|(refine And.intro ?_ ?_;exact zI)|refine And.intro (fun hg=> ?_) (fun hg=> ?_)|exact zC|fail)
    simp[zeW,zaY]
  ·rw[if_pos rfl]
   repeat'(first|refine zq (I hat1 (I hh (I @zmd (I @List.map_cons.{0,0} @zad)))) ?_|exact zd (I hat1 (I hh (I @zmd (I @List.map_cons.{0,0} @zad))))|refine zc (hp) ?_|refine zg (hp) ?_|refine zc (hco) ?_|refine zg (hco) ?_|(refine zaa ?_ ?_<;>intro hb)|(refine And.intro ?_ ?_;exact zI)|(refine And.intro ?_ ?_<;>intro hg)|exact zC|fail)
   refine zbK (mv:= ?mv3) (lent:= ?le3) 0 ?ha3 (hps) ?hb3 ?hc3
   case ha3=>(try simp only[zB,zaE,Nat.reduceSub,Nat.reduceEqDiff,Nat.reduceAdd,Nat.reduceMul,Nat.reduceLeDiff,Nat.reduceLT,Nat.reduceBEq,reduceCtorEq]);exact rfl
   case hb3=>(try simp only[zB,scM,Nat.reduceSub,Nat.reduceEqDiff,Nat.reduceAdd,Nat.reduceMul,Nat.reduceLeDiff,Nat.reduceLT,Nat.reduceBEq,reduceCtorEq]);repeat'(first|rfl|trivial|omega|with_reducible refine And.intro ?_ ?_)
   show aops _ _ _ _ _ _ _ _
   repeat'(first|refine zq0 ?_|exact zd0|(refine zaa ?_ ?_<;>intro hb)|(refine And.intro ?_ ?_;exact zI)|(refine And.intro ?_ ?_<;>intro hg)|exact zC|fail)
   simp[zeW,zaY]
def curL (l:List Lk) (gone:List Int) (i:Nat):List Lk:=(l.take i).map (zaq gone)++l.drop i
theorem zlT {l:List Lk} {gone:List Int} {i:Nat} (hi:i≤l.length):(curL l gone i).length=l.length:=by
 unfold curL
 rw[List.length_append,List.length_map,List.length_take,List.length_drop];omega
theorem zoB {l:List Lk} {gone:List Int} {i:Nat} (hi:i<l.length):∃h:i<(curL l gone i).length,(curL l gone i)[i]=l[i]:=by
 have hl:((l.take i).map (zaq gone)).length=i:=by rw[List.length_map,List.length_take];omega
 have h:(curL l gone i)[i]? =some l[i]:=by
  unfold curL
  rw[List.getElem?_append_right (by omega),hl,Nat.sub_self,List.getElem?_drop,Nat.add_zero,List.getElem?_eq_getElem hi]
 exact ziZ h
theorem zj1 {l:List Lk} {gone:List Int} {i:Nat} (hi:i<l.length):(curL l gone i).set i (zaq gone l[i])=curL l gone (i+1):=by
 have hl:((l.take i).map (zaq gone)).length=i:=by rw[List.length_map,List.length_take];omega
 unfold curL
 rw[List.set_append_right _ _ (by omega),hl,Nat.sub_self,List.drop_eq_getElem_cons hi,List.set_cons_zero,List.take_add_one,List.getElem?_eq_getElem hi]
 simp only[Option.toList,List.map_append,List.map_cons,List.map_nil,List.append_assoc,List.cons_append,List.nil_append]
theorem zlU (l:List Lk) (gone:List Int):curL l gone l.length=l.map (zaq gone):=by
 unfold curL
 rw[List.take_length,List.drop_length,List.append_nil]
theorem zhE {gone:List Int} {t:Int} {L:List Lk} {i:Nat} {g:Int} (hi:i<L.length):zbz gone t (L.drop i) g=if hasI gone L[i].holder=true then
   match L[i].line with
   |[]=>zbz gone t (L.drop (i+1)) g
   |c::rest=>(⟨L[i].name,c,t+g+1,rest⟩::(zbz gone t (L.drop (i+1)) (g+1)).1,(zbz gone t (L.drop (i+1)) (g+1)).2)
  else(L[i]::(zbz gone t (L.drop (i+1)) g).1,(zbz gone t (L.drop (i+1)) g).2):=by
 rw[List.drop_eq_getElem_cons hi,zbz]
 all_goals (cases L[i].line<;>rfl)
theorem zsl (l:List Lk) (hl:l.length<2^30) (hll:∀k∈l,k.line.length<2^30) (gone:List Int) (hg:gone.length<2^30) (t:Int) (ht:0≤t∧t≤2^61):
  CallOK Tryz.prog 75 [.f (al l.length (zah l)), .f (al gone.length (zat gone)), .f (ai t)]
  (fun r o=>r=[.one (.own 4 (zbW l gone t).1.length (zah (zbW l gone t).1) false),ri (zbW l gone t).2]∧o=[]):=by
 refine zac zar mixed (T:=Ty) (n:=63) Tryz.func75 (c:=Tryz.f75.body.getD .skip) rfl Tryz.results75 Tryz.ntmps75 Tryz.call75 ?_
 simp only[Tryz.f75,Option.getD]
 have hco:=zfE l hl hll
 repeat'(first|refine zq @zad ?_|exact zd @zad|refine zc (hco) ?_|refine zg (hco) ?_|(refine zaa ?_ ?_<;>intro hb)|(refine And.intro ?_ ?_;exact zI)|(refine And.intro ?_ ?_<;>intro hg)|exact zC|fail)
 refine zao (τ:=Nat) (fun i=>⟨[dd,al gone.length (zat gone),ai t,dd,dd,dd,dd,dd, .one (.own ⟨8,1,1⟩ 0 l.length),dd,dd,dd,dd,dd,dd,dd,ai l.length,ai i,dd,dd,dd,dd,dd,dd,dd,dd,dd,dd,dd,dd,dd,dd,dd,dd,dd,dd,dd,dd,dd,dd,dd,dd,dd,dd,dd,dd,dd,dd,dd,dd,dd,dd,dd,dd,dd,dd,dd,dd,dd,dd,dd,dd,dd],[(14,⟨2,[]⟩),(8,{next:=2,l:=[none,some {e:=1,var:=false,fz:=false,sz:=4,cells:=(zah (curL l gone i)).map C.d}]}),(28,⟨2,[]⟩)]⟩)
  (fun i=>i≤l.length) (fun _=>()) (fun i=>l.length - i) 0
  (Gh.canon [8] [28] [] zK rfl rfl) (Nat.zero_le _) ?_
 intro i hi0 hF K hK
 refine zw ?_
 refine zaa (fun hlt=> ?_) (fun hge=> ?_)
 ·have hi:i<l.length:=by simpa using hlt
  obtain⟨hic,hce⟩:=zoB (gone:=gone) hi
  have hat:=zaJ hic
  rw[hce]at hat
  have hat2:(zah (curL l gone i)).drop (i*4+3)= .sl l[i].line.length (zat l[i].line)::zah ((curL l gone i).drop (i+1)):=by rw[←List.drop_drop,hat];rfl
  have hw:=zan hi (by omega)
  have hwo:=zmk l[i].line gone (hll _ (List.getElem_mem hi)) hg
  have hset:=zbP Lk.enc 4 (fun _=>rfl) hic (k:=3) (by decide) (.sl (zaS l[i].line gone).length (zat (zaS l[i].line gone))) (zaq gone l[i]) (by rw[hce];rfl)
  rw[zj1 hi]at hset
  repeat'(first|(with_reducible first|refine zab _ _ ?_|refine zaP ?_|refine zaQ ?_)|rw[zak]|simp only[hat2,hset,zeC,←List.map_drop,List.map_cons,zad,zlT hi0,zY,Int.reduceEq,Int.reduceBEq,Int.reduceBNe,Nat.reduceSub,Nat.reduceEqDiff,Nat.reduceAdd,Nat.reduceMul,Nat.reduceLeDiff,Nat.reduceLT,Nat.reduceBEq,reduceCtorEq]|((first|((try refine zaz ?_);apply zaD)|(apply zaB;intro _));(solve|exact(hwo)|(refine CallOK.le (hwo) ?_;exact zM)|fail);try case hn=>rfl)|refine zam ?_|refine zaa (fun hb=> ?_) (fun hb=> ?_)|(refine And.intro ?_ ?_;exact zI)|refine And.intro (fun hg=> ?_) (fun hg=> ?_)|exact zC|fail)
  exact hK _ (i+1) (Gh.canon [8] [] [] (zk hw) rfl rfl) hi rfl (by omega)
 ·have hi:i=l.length:=by
   have:¬(i:Int)<l.length:=by simpa using hge
   omega
  rw[hi,zlU]
  have hml:(l.map (zaq gone)).length=l.length:=List.length_map ..
  repeat'(first|refine zq0 ?_|exact zd0|(refine zaa ?_ ?_<;>intro hb)|(refine And.intro ?_ ?_;exact zI)|(refine And.intro ?_ ?_<;>intro hg)|exact zC|fail)
  refine zao (τ:=List Lk×Nat×Int) (fun q=>⟨[dd,al gone.length (zat gone),ai t,dd,dd,dd,dd,dd, .one (.own ⟨8,1,1⟩ 0 q.1.length),dd,ai q.2.2,ai q.2.1,dd,dd,dd,dd,dd,dd,dd,dd,dd,dd,dd,dd,dd,dd,dd,dd,dd,dd,dd,dd,dd,dd,dd,dd,dd,dd,dd,dd,dd,dd,dd,dd,dd,dd,dd,dd,dd,dd,dd,dd,dd,dd,dd,dd,dd,dd,dd,dd,dd,dd,dd],[(14,⟨2,[]⟩),(8,{next:=2,l:=[none,some {e:=1,var:=false,fz:=false,sz:=4,cells:=(zah q.1).map C.d}]}),(28,⟨2,[]⟩),(52,⟨2,[]⟩)]⟩)
   (fun q=>q.2.1≤q.1.length∧q.1.length≤l.length∧(0≤q.2.2∧q.2.2+q.1.length≤q.2.1+l.length)∧∀k∈q.1,k.line.length<2^30)
   (fun q=>(q.1.take q.2.1++(zbz gone t (q.1.drop q.2.1) q.2.2).1,(zbz gone t (q.1.drop q.2.1) q.2.2).2)) (fun q=>q.1.length - q.2.1) (l.map (zaq gone),0,0)
   (Gh.canon [8] [52] [] zK rfl rfl) ⟨Nat.zero_le _,by simp,by simp, ?_⟩ ?_
  ·intro k hk
   obtain⟨k0,hk0,rfl⟩:=List.mem_map.1 hk
   exact Nat.lt_of_le_of_lt (List.length_filter_le ..) (hll k0 hk0)
  intro⟨L,i,g⟩ ⟨j1,j2,j3,j4⟩ hF K hK
  simp only[List.drop_zero,List.take_zero,List.nil_append]at j1 j2 j3 j4 hF hK⊢
  refine zw ?_
  refine zaa (fun hlt=> ?_) (fun hge=> ?_)
  ·have hi:i<L.length:=by simpa using hlt
   have hat:=zaJ hi
   have hat1:(zah L).drop (i*4+1)=iD L[i].holder::iD L[i].token:: .sl L[i].line.length (zat L[i].line)::zah (L.drop (i+1)):=by rw[←List.drop_drop,hat];rfl
   have hcn:=zbt gone (by omega) L[i].holder
   have hps:=zoA L i hi (by omega) j4 (t+g) (by omega)
   have hwt:IntKind.i64.wrap (t+g)=t+g:=wrap64 (by omega) (by omega)
   have hw:=zan hi (by omega)
   have hdr:=zhE (gone:=gone) (t:=t) (g:=g) hi
   cases hh:hasI gone L[i].holder
   ·rw[hh,if_neg (by simp)]at hdr
    rw[show(gone.any fun x=>L[i].holder==x)=false from hh]at hcn
    repeat'(first|refine zq (I hat1 (I @zmd (I @List.map_cons.{0,0} @zad))) ?_|exact zd (I hat1 (I @zmd (I @List.map_cons.{0,0} @zad)))|refine zc (hcn) ?_|refine zg (hcn) ?_|(refine zaa ?_ ?_<;>intro hb)|(refine And.intro ?_ ?_;exact zI)|(refine And.intro ?_ ?_<;>intro hg)|exact zC|fail)
    exact hK _ (L,i+1,g) (Gh.canon [8] [] [] (zk hw) rfl rfl) ⟨hi,j2,by simp only;omega,j4⟩ (by simp only;rw[hdr,List.take_add_one,List.getElem?_eq_getElem hi];simp only[Option.toList,List.append_assoc,List.cons_append,List.nil_append]) (by simp only;omega)
   ·rw[show(gone.any fun x=>L[i].holder==x)=true from hh]at hcn
    rw[hh,if_pos rfl]at hdr
    cases hline:L[i].line with
    |nil=>
     have hp:zco L i L[i] (t+g)=(L.eraseIdx i,0):=by unfold zco;rw[hline]
     rw[hp]at hps
     rw[hline]at hdr hat1
     simp only at hdr
     have hel:=zi2 hi
     repeat'(first|refine zq (I hat1 (I hwt (I @zmd (I @List.map_cons.{0,0} @zad)))) ?_|exact zd (I hat1 (I hwt (I @zmd (I @List.map_cons.{0,0} @zad))))|refine zc (hcn) ?_|refine zg (hcn) ?_|(refine zaa ?_ ?_<;>intro hb)|(refine And.intro ?_ ?_;exact zI)|(refine And.intro ?_ ?_<;>intro hg)|exact zC|fail)
     refine zbK (mv:= ?mv1) (lent:= ?le1) 0 ?ha1 (hps) ?hb1 ?hc1
     case ha1=>(try simp only[zB,zaE,Nat.reduceSub,Nat.reduceEqDiff,Nat.reduceAdd,Nat.reduceMul,Nat.reduceLeDiff,Nat.reduceLT,Nat.reduceBEq,reduceCtorEq]);exact rfl
     case hb1=>(try simp only[zB,scM,Nat.reduceSub,Nat.reduceEqDiff,Nat.reduceAdd,Nat.reduceMul,Nat.reduceLeDiff,Nat.reduceLT,Nat.reduceBEq,reduceCtorEq]);repeat'(first|rfl|trivial|omega|with_reducible refine And.intro ?_ ?_)
     show aops _ _ _ _ _ _ _ _
     repeat'(first|refine zq0 ?_|exact zd0|(refine zaa ?_ ?_<;>intro hb)|(refine And.intro ?_ ?_;exact zI)|(refine And.intro ?_ ?_<;>intro hg)|exact zC|fail)
     have hw0:IntKind.i64.wrap ((i:Int)+0)=(i:Int):=by rw[Int.add_zero];exact wrap64 (by omega) (by omega)
     have hg0:IntKind.i64.wrap (g+0)=g:=by rw[Int.add_zero];exact wrap64 (by omega) (by omega)
     refine hK _ (L.eraseIdx i,i,g) (Gh.canon [8] [] [] (zk (I hw0 hg0)) rfl rfl) ⟨by simp only;omega,by simp only;omega,by simp only;omega,fun k hk=>j4 k (List.mem_of_mem_eraseIdx hk)⟩ ?_ (by simp only;omega)
     simp only
     rw[hdr]
     have e1:(L.eraseIdx i).take i=L.take i:=by rw[List.eraseIdx_eq_take_drop_succ,List.take_left' (by rw[List.length_take];omega)]
     have e2:(L.eraseIdx i).drop i=L.drop (i+1):=by rw[List.eraseIdx_eq_take_drop_succ,List.drop_left' (by rw[List.length_take];omega)]
     rw[e1,e2]
    |cons c rest=>
     have hp:zco L i L[i] (t+g)=(L.set i ⟨L[i].name,c,t+g+1,rest⟩,1):=by unfold zco;rw[hline]
     rw[hp]at hps
     rw[hline]at hdr hat1
     simp only at hdr
     repeat'(first|refine zq (I hat1 (I hwt (I @zmd (I @List.map_cons.{0,0} @zad)))) ?_|exact zd (I hat1 (I hwt (I @zmd (I @List.map_cons.{0,0} @zad))))|refine zc (hcn) ?_|refine zg (hcn) ?_|(refine zaa ?_ ?_<;>intro hb)|(refine And.intro ?_ ?_;exact zI)|(refine And.intro ?_ ?_<;>intro hg)|exact zC|fail)
     refine zbK (mv:= ?mv2) (lent:= ?le2) 0 ?ha2 (hps) ?hb2 ?hc2
     case ha2=>(try simp only[zB,zaE,Nat.reduceSub,Nat.reduceEqDiff,Nat.reduceAdd,Nat.reduceMul,Nat.reduceLeDiff,Nat.reduceLT,Nat.reduceBEq,reduceCtorEq]);exact rfl
     case hb2=>(try simp only[zB,scM,Nat.reduceSub,Nat.reduceEqDiff,Nat.reduceAdd,Nat.reduceMul,Nat.reduceLeDiff,Nat.reduceLT,Nat.reduceBEq,reduceCtorEq]);repeat'(first|rfl|trivial|omega|with_reducible refine And.intro ?_ ?_)
     show aops _ _ _ _ _ _ _ _
     repeat'(first|refine zq0 ?_|exact zd0|(refine zaa ?_ ?_<;>intro hb)|(refine And.intro ?_ ?_;exact zI)|(refine And.intro ?_ ?_<;>intro hg)|exact zC|fail)
     have hg1:IntKind.i64.wrap (g+1)=g+1:=wrap64 (by omega) (by omega)
     refine hK _ (L.set i ⟨L[i].name,c,t+g+1,rest⟩,i+1,g+1) (Gh.canon [8] [] [] (zk (I hw hg1)) rfl rfl) ⟨by simp only[List.length_set];omega,by simp only[List.length_set];omega,by simp only[List.length_set];omega,fun k hk=> ?_⟩ ?_ (by simp only[List.length_set];omega)
     ·rcases List.mem_or_eq_of_mem_set hk with h|h
      ·exact j4 k h
      ·subst h
       have:=j4 _ (List.getElem_mem hi)
       rw[hline]at this
       simp only[List.length_cons]at this⊢
       omega
     ·simp only
      rw[hdr,zdz hi,zeD (by omega)]
      simp only[List.append_assoc,List.cons_append,List.nil_append]
  ·have hi:i=L.length:=by
    have:¬(i:Int)<L.length:=by simpa using hge
    omega
   rw[hi,List.drop_length,List.take_length,show zbz gone t [] g=([],g) from rfl,List.append_nil]at hF
   repeat'(first|refine zq0 ?_|exact zd0|(refine zaa ?_ ?_<;>intro hb)|(refine And.intro ?_ ?_;exact zI)|(refine And.intro ?_ ?_<;>intro hg)|exact zC|fail)
   unfold zbW
   rw[←(Prod.mk.inj hF).1,←(Prod.mk.inj hF).2]
theorem zkU {a b:Int}:(a==b)=(b==a):=by rw[Bool.eq_iff_iff,beq_iff_eq,beq_iff_eq];exact eq_comm
theorem zql (l:List Int) (hl:l.length<2^62) (x:Int):CallOK Tryz.prog 134 [.f (al l.length (zat l)), .f (ai x)] (fun r o=>r=[rb (hasI l x)]∧o=[]):=by
 refine zac zar mixed (T:=Ty) (n:=18) Tryz.func134 (c:=Tryz.f134.body.getD .skip) rfl Tryz.results134 Tryz.ntmps134 Tryz.call134 ?_
 simp only[Tryz.f134,Option.getD]
 repeat'(first|refine zq0 ?_|exact zd0|(refine zaa ?_ ?_<;>intro hb)|(refine And.intro ?_ ?_;exact zI)|(refine And.intro ?_ ?_<;>intro hg)|exact zC|fail)
 refine zao (τ:=Nat) (fun i=>⟨[al l.length (zat l),ai x,dd,dd,dd,ai i,dd,dd,dd,dd,dd,dd,dd,dd,dd,dd,dd,dd],[]⟩)
  (fun i=>i≤l.length) (fun i=>hasI (l.drop i) x) (fun i=>l.length - i) 0
  (Gh.canon [] [] [] zK rfl rfl) (Nat.zero_le _) ?_
 intro i hi0 hF K hK
 rw[List.drop_zero]at hF
 refine zw ?_
 refine zaa (fun hlt=> ?_) (fun hge=> ?_)
 ·have hi:i<l.length:=by simpa using hlt
  have hat:=zcx hi
  have hw:=zan hi hl
  have hq:hasI (l.drop i) x=(l[i]==x||hasI (l.drop (i+1)) x):=by rw[List.drop_eq_getElem_cons hi];unfold hasI;rw[List.any_cons,zkU]
  rw[hq]at hF
  repeat'(first|refine zq (I hat (I @zaf zca)) ?_|exact zd (I hat (I @zaf zca))|(refine zaa ?_ ?_<;>intro hb)|(refine And.intro ?_ ?_;exact zI)|(refine And.intro ?_ ?_<;>intro hg)|exact zC|fail)
  ·rw[hb]at hF
   rw[←hF];rfl
  ·rw[hb]at hq
   exact hK _ (i+1) (Gh.canon [] [] [] (zk hw) rfl rfl) hi (by rw[hq];rfl) (by omega)
 ·have hi:i=l.length:=by
   have:¬(i:Int)<l.length:=by simpa using hge
   omega
  rw[hi,List.drop_length]at hF
  rw[←hF]
  repeat'(first|refine zq0 ?_|exact zd0|(refine zaa ?_ ?_<;>intro hb)|(refine And.intro ?_ ?_;exact zI)|(refine And.intro ?_ ?_<;>intro hg)|exact zC|fail)
  rfl
abbrev ztm (x:Sess):RF:= .agg [.d (iD x.client), .d (iD x.num), .d (iD x.renewed)]
theorem zcK (l:List Sess) (hl:l.length<2^62) (c:Int):CallOK Tryz.prog 57 [.f (al l.length (zaF l)), .f (ai c)]
  (fun r o=>r=[ztm ((zaC l c).getD zdI),rb (zaC l c).isSome]∧o=[]):=by
 refine zac zar mixed (T:=Ty) (n:=25) Tryz.func57 (c:=Tryz.f57.body.getD .skip) rfl Tryz.results57 Tryz.ntmps57 Tryz.call57 ?_
 simp only[Tryz.f57,Option.getD]
 repeat'(first|refine zq0 ?_|exact zd0|(refine zaa ?_ ?_<;>intro hb)|(refine And.intro ?_ ?_;exact zI)|(refine And.intro ?_ ?_<;>intro hg)|exact zC|fail)
 refine zao (τ:=Nat) (fun i=>⟨[al l.length (zaF l),ai c,dd,dd, .one (.ptr ⟨4,0,1⟩ 0),dd,ai i,dd,dd,dd,dd,dd,dd,dd,dd,dd,dd,dd,dd,dd,dd,dd,dd,dd,dd],[(4,{next:=2,l:=[some {e:=1,var:=true,fz:=false,sz:=0,cells:=[di 0,di 0,di 0]},none,none,none]})]⟩)
  (fun i=>i≤l.length) (fun i=>zaC (l.drop i) c) (fun i=>l.length - i) 0
  (Gh.canon [4] [] [] zK rfl rfl) (Nat.zero_le _) ?_
 intro i hi0 hF K hK
 rw[List.drop_zero]at hF
 refine zw ?_
 refine zaa (fun hlt=> ?_) (fun hge=> ?_)
 ·have hi:i<l.length:=by simpa using hlt
  have hat:=zbs hi
  have hw:=zan hi hl
  have hq:zaC (l.drop i) c=if(l[i].client==c)=true then some l[i]else zaC (l.drop (i+1)) c:=by
   unfold zaC
   rw[List.drop_eq_getElem_cons hi,List.find?_cons]
   cases l[i].client==c<;>rfl
  rw[hq]at hF
  repeat'(first|refine zq (I hat (I @zai zca)) ?_|exact zd (I hat (I @zai zca))|(refine zaa ?_ ?_<;>intro hb)|(refine And.intro ?_ ?_;exact zI)|(refine And.intro ?_ ?_<;>intro hg)|exact zC|fail)
  ·rw[if_pos hb]at hF
   rw[←hF];rfl
  ·rw[if_neg (by rw[hb];simp)]at hq
   exact hK _ (i+1) (Gh.canon [4] [] [] (zk hw) rfl rfl) hi hq.symm (by omega)
 ·have hi:i=l.length:=by
   have:¬(i:Int)<l.length:=by simpa using hge
   omega
  rw[hi,List.drop_length]at hF
  rw[←hF]
  repeat'(first|refine zq0 ?_|exact zd0|(refine zaa ?_ ?_<;>intro hb)|(refine And.intro ?_ ?_;exact zI)|(refine And.intro ?_ ?_<;>intro hg)|exact zC|fail)
  rfl
theorem zgS (l:List Lk) (hl:l.length<2^62) (s:ByteArray):CallOK Tryz.prog 140 [.f (al l.length (zah l)), .f (ast s)] (fun r o=>r=[ri (zcn (isL s) l 0)]∧o=[]):=by
 refine zac zar mixed (T:=Ty) (n:=20) Tryz.func140 (c:=Tryz.f140.body.getD .skip) rfl Tryz.results140 Tryz.ntmps140 Tryz.call140 ?_
 simp only[Tryz.f140,Option.getD]
 repeat'(first|refine zq0 ?_|exact zd0|(refine zaa ?_ ?_<;>intro hb)|(refine And.intro ?_ ?_;exact zI)|(refine And.intro ?_ ?_<;>intro hg)|exact zC|fail)
 refine zao (τ:=Nat) (fun i=>⟨[al l.length (zah l),ast s,dd,dd,dd,ai i,dd,dd,dd,dd,dd,dd,dd,dd,dd,dd,dd,dd,dd,dd],[]⟩)
  (fun i=>i≤l.length) (fun i=>zcn (isL s) (l.drop i) i) (fun i=>l.length - i) 0
  (Gh.canon [] [] [] zK rfl rfl) (Nat.zero_le _) ?_
 intro i hi0 hF K hK
 rw[List.drop_zero]at hF
 refine zw ?_
 refine zaa (fun hlt=> ?_) (fun hge=> ?_)
 ·have hi:i<l.length:=by simpa using hlt
  have hat:=zaJ hi
  have hw:=zan hi hl
  have hq:zcn (isL s) (l.drop i) i=if(l[i].name.toList==s.toList)=true then(i:Int)else zcn (isL s) (l.drop (i+1)) ((i+1:Nat):Int):=by
   rw[List.drop_eq_getElem_cons hi,zcn];rfl
  rw[hq]at hF
  repeat'(first|refine zq (I hat (I @zad zca)) ?_|exact zd (I hat (I @zad zca))|(refine zaa ?_ ?_<;>intro hb)|(refine And.intro ?_ ?_;exact zI)|(refine And.intro ?_ ?_<;>intro hg)|exact zC|fail)
  ·rw[if_pos hb]at hF
   have hF:(i:Int)=zcn (isL s) l 0:=hF
   rw[←hF]
  ·rw[if_neg (by rw[hb];simp)]at hq
   exact hK _ (i+1) (Gh.canon [] [] [] (zk hw) rfl rfl) hi hq.symm (by omega)
 ·have hi:i=l.length:=by
   have:¬(i:Int)<l.length:=by simpa using hge
   omega
  rw[hi,List.drop_length]at hF
  have hF:(-1:Int)=zcn (isL s) l 0:=hF
  rw[←hF]
  repeat'(first|refine zq0 ?_|exact zd0|(refine zaa ?_ ?_<;>intro hb)|(refine And.intro ?_ ?_;exact zI)|(refine And.intro ?_ ?_<;>intro hg)|exact zC|fail)
theorem zc5 (v a:Int):CallOK Tryz.prog 91 [.f (ai v), .f (ai a)] (fun r o=>r=[rb (decide (v≥a)&&decide (v≤2305843009213693952))]∧o=[]):=by
 refine zac zar mixed (T:=Ty) (n:=12) Tryz.func91 (c:=Tryz.f91.body.getD .skip) rfl Tryz.results91 Tryz.ntmps91 Tryz.call91 ?_
 simp only[Tryz.f91,Option.getD]
 repeat'(first|refine zq0 ?_|exact zd0|(refine zaa ?_ ?_<;>intro hb)|(refine And.intro ?_ ?_;exact zI)|(refine And.intro ?_ ?_<;>intro hg)|exact zC|fail)
theorem zep (c:Int):CallOK Tryz.prog 131 [.f (ai c)] (fun r o=>r=[rb (isClient c)]∧o=[]):=by
 refine zac zar mixed (T:=Ty) (n:=9) Tryz.func131 (c:=Tryz.f131.body.getD .skip) rfl Tryz.results131 Tryz.ntmps131 Tryz.call131 ?_
 simp only[Tryz.f131,Option.getD]
 repeat'(first|refine zq0 ?_|exact zd0|(refine zaa ?_ ?_<;>intro hb)|(refine And.intro ?_ ?_;exact zI)|(refine And.intro ?_ ?_<;>intro hg)|exact zC|fail)
 rfl
theorem zgW (l:List Int) (hl:l.length<2^62) (c:Int):CallOK Tryz.prog 141 [.f (al l.length (zat l)), .f (ai c)] (fun r o=>r=[ri (zgn l c),rb (hasI l c)]∧o=[]):=by
 refine zac zar mixed (T:=Ty) (n:=20) Tryz.func141 (c:=Tryz.f141.body.getD .skip) rfl Tryz.results141 Tryz.ntmps141 Tryz.call141 ?_
 simp only[Tryz.f141,Option.getD]
 have hh:hasI l c=decide (zcn (fun x=>c==x) l 0≥0):=(zdB _ l).symm
 rw[hh]
 unfold zgn
 repeat'(first|refine zq0 ?_|exact zd0|(refine zaa ?_ ?_<;>intro hb)|(refine And.intro ?_ ?_;exact zI)|(refine And.intro ?_ ?_<;>intro hg)|exact zC|fail)
 refine zao (τ:=Nat) (fun i=>⟨[al l.length (zat l),ai c,dd,dd,dd,dd,ai i,dd,dd,dd,dd,dd,dd,dd,dd,dd,dd,dd,dd,dd],[]⟩)
  (fun i=>i≤l.length) (fun i=>zcn (fun x=>c==x) (l.drop i) i) (fun i=>l.length - i) 0
  (Gh.canon [] [] [] zK rfl rfl) (Nat.zero_le _) ?_
 intro i hi0 hF K hK
 rw[List.drop_zero]at hF
 refine zw ?_
 refine zaa (fun hlt=> ?_) (fun hge=> ?_)
 ·have hi:i<l.length:=by simpa using hlt
  have hat:=zcx hi
  have hw:=zan hi hl
  have hq:zcn (fun x=>c==x) (l.drop i) i=if(l[i]==c)=true then(i:Int)else zcn (fun x=>c==x) (l.drop (i+1)) ((i+1:Nat):Int):=by
   rw[List.drop_eq_getElem_cons hi,zcn,zkU];rfl
  rw[hq]at hF
  repeat'(first|refine zq (I hat (I @zaf zca)) ?_|exact zd (I hat (I @zaf zca))|(refine zaa ?_ ?_<;>intro hb)|(refine And.intro ?_ ?_;exact zI)|(refine And.intro ?_ ?_<;>intro hg)|exact zC|fail)
  ·rw[if_pos hb]at hF
   have hF:(i:Int)=zcn (fun x=>c==x) l 0:=hF
   rw[←hF,if_pos (by omega)]
   simp
  ·rw[if_neg (by rw[hb];simp)]at hq
   exact hK _ (i+1) (Gh.canon [] [] [] (zk hw) rfl rfl) hi hq.symm (by omega)
 ·have hi:i=l.length:=by
   have:¬(i:Int)<l.length:=by simpa using hge
   omega
  rw[hi,List.drop_length]at hF
  have hF:(-1:Int)=zcn (fun x=>c==x) l 0:=hF
  rw[←hF]
  repeat'(first|refine zq0 ?_|exact zd0|(refine zaa ?_ ?_<;>intro hb)|(refine And.intro ?_ ?_;exact zI)|(refine And.intro ?_ ?_<;>intro hg)|exact zC|fail)
  rfl
theorem zgX (l gone:List Int) (hl:l.length<2^30) (hg:gone.length<2^30):CallOK Tryz.prog 138 [.f (al l.length (zat l)), .f (al gone.length (zat gone))] (fun r o=>r=[zeC (zaS l gone)]∧o=[]):=by
 refine CallOK.nil ?_
 refine zac zar mixed (T:=Ty) (n:=28) Tryz.func138 (c:=Tryz.f138.body.getD .skip) rfl Tryz.results138 Tryz.ntmps138 Tryz.call138 ?_
 simp only[Tryz.f138,Option.getD]
 repeat'(first|refine zq0 ?_|exact zd0|(refine zaa ?_ ?_<;>intro hb)|(refine And.intro ?_ ?_;exact zI)|(refine And.intro ?_ ?_<;>intro hg)|exact zC|fail)
 refine zao (τ:=Nat×List Int) (fun t=>⟨[al l.length (zat l),al gone.length (zat gone),dd,dd,dd, .one (.own ⟨5,1,1⟩ 0 t.2.length),ai t.1,dd,dd,dd,dd,dd,dd,dd,dd,dd,dd,dd,dd,dd,dd,dd,dd,dd,dd,dd,dd,dd],[(5,{next:=2,l:=[none,some {e:=1,var:=false,fz:=false,sz:=1,cells:=(zat t.2).map C.d}]}),(25,⟨2,[]⟩),(26,⟨2,[]⟩)]⟩)
  (fun t=>t.1≤l.length∧t.2.length≤t.1) (fun t=>t.2++zaS (l.drop t.1) gone) (fun t=>l.length - t.1) (0,[])
  ((Gh.nil (i:=5) (s:=5) (sz:=1) rfl).trans (Gh.canon [5] [25,26] [] zK rfl rfl)) ⟨Nat.zero_le _,Nat.zero_le _⟩ ?_
 intro⟨i,acc⟩ ⟨hi0,hac⟩ hF K hK
 simp only[List.drop_zero,List.nil_append]at hi0 hac hF hK⊢
 refine zw ?_
 refine zaa (fun hlt=> ?_) (fun hge=> ?_)
 ·have hi:i<l.length:=by simpa using hlt
  have hat:=zcx hi
  have hw:=zan hi (by omega)
  have hin:=zql gone (by omega) l[i]
  have hFs:zaS (l.drop i) gone=if(!hasI gone l[i])=true then l[i]::zaS (l.drop (i+1)) gone else zaS (l.drop (i+1)) gone:=by
   unfold zaS
   rw[List.drop_eq_getElem_cons hi,List.filter_cons]
  cases hb:(!hasI gone l[i])
  ·rw[hb,if_neg (by simp)]at hFs
   repeat'(first|refine zq (I hat (I hb (I @zaf zca))) ?_|exact zd (I hat (I hb (I @zaf zca)))|refine zc (hin) ?_|refine zg (hin) ?_|(refine zaa ?_ ?_<;>intro hb)|(refine And.intro ?_ ?_;exact zI)|(refine And.intro ?_ ?_<;>intro hg)|exact zC|fail)
   exact hK _ (i+1,acc) (Gh.canon [5] [] [] (zk hw) rfl rfl) ⟨hi,by simp only;omega⟩ (by simp only;rw[hFs]) (by simp only;omega)
  ·rw[hb,if_pos rfl]at hFs
   repeat'(first|refine zq (I hat (I hb (I @zaf zca))) ?_|exact zd (I hat (I hb (I @zaf zca)))|refine zc (hin) ?_|refine zg (hin) ?_|(refine zaa ?_ ?_<;>intro hb)|(refine And.intro ?_ ?_;exact zI)|(refine And.intro ?_ ?_<;>intro hg)|exact zC|fail)
   exact hK _ (i+1,acc++[l[i]]) (Gh.canon [5] [] [] (zk (I hw (I @List.length_append.{0} @List.length_singleton.{0}))) rfl (by simp only[List.length_append,List.length_singleton];rw[zfy];rfl)) ⟨hi,by simp only[List.length_append,List.length_singleton];omega⟩ (by simp only[List.append_assoc,List.singleton_append];rw[hFs]) (by simp only;omega)
 ·have hi:i=l.length:=by
   have:¬(i:Int)<l.length:=by simpa using hge
   omega
  rw[hi,List.drop_length]at hF
  have hF:acc++[]=zaS l gone:=hF
  rw[←hF,List.append_nil]
  repeat'(first|refine zq0 ?_|exact zd0|(refine zaa ?_ ?_<;>intro hb)|(refine And.intro ?_ ?_;exact zI)|(refine And.intro ?_ ?_<;>intro hg)|exact zC|fail)
  simp[zgZ,zaY,zeC]
abbrev zsp (l:List Sess) (now lease:Int):List Int:=(l.filter fun s=>decide (now - s.renewed≥lease)).map Sess.client
theorem zsq (l:List Sess) (hl:l.length<2^30) (now lease:Int) (hr:∀s∈l,0≤s.renewed∧s.renewed≤zaT) (hn:0≤now∧now≤zaT):CallOK Tryz.prog 62 [.f (al l.length (zaF l)), .f (ai now), .f (ai lease)] (fun r o=>r=[zeC (zhU l now lease)]∧o=[]):=by
 refine CallOK.nil ?_
 refine zac zar mixed (T:=Ty) (n:=41) Tryz.func62 (c:=Tryz.f62.body.getD .skip) rfl Tryz.results62 Tryz.ntmps62 Tryz.call62 ?_
 simp only[Tryz.f62,Option.getD]
 have hg1:=zc5 now 0
 have hg2:=zc5 lease 0
 rw[show(decide (now≥0)&&decide (now≤2305843009213693952))=true by have:zaT=2305843009213693952:=rfl;simp;omega]at hg1
 cases hle:(decide (lease≥0)&&decide (lease≤2305843009213693952))
 ·rw[hle]at hg2
  have hd:zhU l now lease=[]:=by
   unfold zhU
   rw[if_pos]
   have:zaT=2305843009213693952:=rfl
   simp at hle⊢
   omega
  rw[hd]
  repeat'(first|refine zq0 ?_|exact zd0|refine zc (hg1) ?_|refine zg (hg1) ?_|refine zc (hg2) ?_|refine zg (hg2) ?_|(refine zaa ?_ ?_<;>intro hb)|(refine And.intro ?_ ?_;exact zI)|(refine And.intro ?_ ?_<;>intro hg)|exact zC|fail)
  simp[zgZ,zaY,zeC]
 rw[hle]at hg2
 have hd:zhU l now lease=zsp l now lease:=by
  unfold zhU
  rw[if_neg]
  have:zaT=2305843009213693952:=rfl
  simp at hle⊢
  omega
 rw[hd]
 repeat'(first|refine zq0 ?_|exact zd0|refine zc (hg1) ?_|refine zg (hg1) ?_|refine zc (hg2) ?_|refine zg (hg2) ?_|(refine zaa ?_ ?_<;>intro hb)|(refine And.intro ?_ ?_;exact zI)|(refine And.intro ?_ ?_<;>intro hg)|exact zC|fail)
 refine zao (τ:=Nat×List Int) (fun t=>⟨[al l.length (zaF l),ai now,ai lease,dd,dd,dd,dd, .one (.own ⟨7,1,1⟩ 0 t.2.length),ai t.1,dd,dd,dd,dd,dd,dd,dd,dd,dd,dd,dd,dd,dd,dd,dd,dd,dd,dd,dd,dd,dd,dd,dd,dd,dd,dd,dd,dd,dd,dd,dd,dd],[(7,{next:=2,l:=[none,some {e:=1,var:=false,fz:=false,sz:=1,cells:=(zat t.2).map C.d}]}),(38,⟨2,[]⟩),(39,⟨2,[]⟩)]⟩)
  (fun t=>t.1≤l.length∧t.2.length≤t.1) (fun t=>t.2++zsp (l.drop t.1) now lease) (fun t=>l.length - t.1) (0,[])
  ((Gh.nil (i:=7) (s:=7) (sz:=1) rfl).trans (Gh.canon [7] [38,39] [] zK rfl rfl)) ⟨Nat.zero_le _,Nat.zero_le _⟩ ?_
 intro⟨i,acc⟩ ⟨hi0,hac⟩ hF K hK
 simp only[List.drop_zero,List.nil_append]at hi0 hac hF hK⊢
 refine zw ?_
 refine zaa (fun hlt=> ?_) (fun hge=> ?_)
 ·have hi:i<l.length:=by simpa using hlt
  have hat:=zbs hi
  have hw:=zan hi (by omega)
  have hrb:=hr _ (List.getElem_mem hi)
  have hH:zaT=2305843009213693952:=rfl
  have hw2:IntKind.i64.wrap (now - l[i].renewed)=now - l[i].renewed:=wrap64 (by omega) (by omega)
  have hFs:zsp (l.drop i) now lease=if(decide (now - l[i].renewed≥lease))=true then l[i].client::zsp (l.drop (i+1)) now lease else zsp (l.drop (i+1)) now lease:=by
   unfold zsp
   rw[List.drop_eq_getElem_cons hi,List.filter_cons]
   split<;>simp
  cases hb:(decide (now - l[i].renewed≥lease))
  ·rw[hb,if_neg (by simp)]at hFs
   repeat'(first|refine zq (I hat (I hb (I hw2 (I @zai zca)))) ?_|exact zd (I hat (I hb (I hw2 (I @zai zca))))|(refine zaa ?_ ?_<;>intro hb)|(refine And.intro ?_ ?_;exact zI)|(refine And.intro ?_ ?_<;>intro hg)|exact zC|fail)
   exact hK _ (i+1,acc) (Gh.canon [7] [] [] (zk hw) rfl rfl) ⟨hi,by simp only;omega⟩ (by simp only;rw[hFs]) (by simp only;omega)
  ·rw[hb,if_pos rfl]at hFs
   repeat'(first|refine zq (I hat (I hb (I hw2 (I @zai zca)))) ?_|exact zd (I hat (I hb (I hw2 (I @zai zca))))|(refine zaa ?_ ?_<;>intro hb)|(refine And.intro ?_ ?_;exact zI)|(refine And.intro ?_ ?_<;>intro hg)|exact zC|fail)
   exact hK _ (i+1,acc++[l[i].client]) (Gh.canon [7] [] [] (zk (I hw (I @List.length_append.{0} @List.length_singleton.{0}))) rfl (by simp only[List.length_append,List.length_singleton];rw[zfy];rfl)) ⟨hi,by simp only[List.length_append,List.length_singleton];omega⟩ (by simp only[List.append_assoc,List.singleton_append];rw[hFs]) (by simp only;omega)
 ·have hi:i=l.length:=by
   have:¬(i:Int)<l.length:=by simpa using hge
   omega
  rw[hi,List.drop_length]at hF
  have hF:acc++[]=zsp l now lease:=hF
  rw[←hF,List.append_nil]
  repeat'(first|refine zq0 ?_|exact zd0|(refine zaa ?_ ?_<;>intro hb)|(refine And.intro ?_ ?_;exact zI)|(refine And.intro ?_ ?_<;>intro hg)|exact zC|fail)
  simp[zgZ,zaY,zeC]
theorem zqr (l:List Lk) (hl:l.length<2^30) (c:Int):CallOK Tryz.prog 142 [.f (al l.length (zah l)), .f (ai c)] (fun r o=>r=[.one (.own 2 (za7 l c).length (zaG (za7 l c)) false)]∧o=[]):=by
 refine CallOK.nil ?_
 refine zac zar mixed (T:=Ty) (n:=35) Tryz.func142 (c:=Tryz.f142.body.getD .skip) rfl Tryz.results142 Tryz.ntmps142 Tryz.call142 ?_
 simp only[Tryz.f142,Option.getD]
 repeat'(first|refine zq0 ?_|exact zd0|(refine zaa ?_ ?_<;>intro hb)|(refine And.intro ?_ ?_;exact zI)|(refine And.intro ?_ ?_<;>intro hg)|exact zC|fail)
 refine zao (τ:=Nat×List Grant) (fun t=>⟨[al l.length (zah l),ai c,dd,dd,dd, .one (.own ⟨5,1,1⟩ 0 t.2.length),ai t.1,dd,dd,dd,dd,dd,dd,dd,dd,dd,dd,dd,dd,dd,dd,dd,dd,dd,dd,dd,dd,dd,dd,dd,dd,dd,dd,dd,dd],[(5,{next:=2,l:=[none,some {e:=1,var:=false,fz:=false,sz:=2,cells:=(zaG t.2).map C.d}]}),(32,⟨2,[]⟩),(33,⟨2,[]⟩)]⟩)
  (fun t=>t.1≤l.length∧t.2.length≤t.1) (fun t=>t.2++za7 (l.drop t.1) c) (fun t=>l.length - t.1) (0,[])
  ((Gh.nil (i:=5) (s:=5) (sz:=2) rfl).trans (Gh.canon [5] [32,33] [] zK rfl rfl)) ⟨Nat.zero_le _,Nat.zero_le _⟩ ?_
 intro⟨i,acc⟩ ⟨hi0,hac⟩ hF K hK
 simp only[List.drop_zero,List.nil_append]at hi0 hac hF hK⊢
 refine zw ?_
 refine zaa (fun hlt=> ?_) (fun hge=> ?_)
 ·have hi:i<l.length:=by simpa using hlt
  have hat:=zaJ hi
  have hw:=zan hi (by omega)
  have hFs:za7 (l.drop i) c=if(l[i].holder==c)=true then⟨l[i].name,l[i].token⟩::za7 (l.drop (i+1)) c else za7 (l.drop (i+1)) c:=by
   unfold za7
   rw[List.drop_eq_getElem_cons hi,List.filter_cons]
   split<;>simp
  cases hb:(l[i].holder==c)
  ·rw[hb,if_neg (by simp)]at hFs
   repeat'(first|refine zq (I hat (I hb (I @zad zca))) ?_|exact zd (I hat (I hb (I @zad zca)))|(refine zaa ?_ ?_<;>intro hb)|(refine And.intro ?_ ?_;exact zI)|(refine And.intro ?_ ?_<;>intro hg)|exact zC|fail)
   exact hK _ (i+1,acc) (Gh.canon [5] [] [] (zk hw) rfl rfl) ⟨hi,by simp only;omega⟩ (by simp only;rw[hFs]) (by simp only;omega)
  ·rw[hb,if_pos rfl]at hFs
   repeat'(first|refine zq (I hat (I hb (I @zad zca))) ?_|exact zd (I hat (I hb (I @zad zca)))|(refine zaa ?_ ?_<;>intro hb)|(refine And.intro ?_ ?_;exact zI)|(refine And.intro ?_ ?_<;>intro hg)|exact zC|fail)
   exact hK _ (i+1,acc++[⟨l[i].name,l[i].token⟩]) (Gh.canon [5] [] [] (zk (I hw (I @List.length_append.{0} @List.length_singleton.{0}))) rfl (by simp only[List.length_append,List.length_singleton];rw[zfM];rfl)) ⟨hi,by simp only[List.length_append,List.length_singleton];omega⟩ (by simp only[List.append_assoc,List.singleton_append];rw[hFs]) (by simp only;omega)
 ·have hi:i=l.length:=by
   have:¬(i:Int)<l.length:=by simpa using hge
   omega
  rw[hi,List.drop_length]at hF
  have hF:acc++[]=za7 l c:=hF
  rw[←hF,List.append_nil]
  repeat'(first|refine zq0 ?_|exact zd0|(refine zaa ?_ ?_<;>intro hb)|(refine And.intro ?_ ?_;exact zI)|(refine And.intro ?_ ?_<;>intro hg)|exact zC|fail)
  simp[zgZ,zaY]
end Go.Proofs.YtngleemijkaeoaaGreat
