import Derived.Test.YtngleemijkaeoaaGreatVP
namespace Go.Proofs.YtngleemijkaeoaaGreat
open Go.Pk
set_option maxRecDepth 100000
set_option linter.unusedSimpArgs false
set_option linter.unusedVariables false
set_option maxHeartbeats 4000000 in
theorem zo1 (l:List Memo) (hl:l.length<2^30) (hll:∀m∈l,zcl m.reply):CallOK Tryz.prog 94 [.f (al l.length (zav l))] (fun r o=>r=[rb (memoB l)]∧o=[]):=by
 refine zac zar mixed (T:=Ty) (n:=46) Tryz.func94 (c:=Tryz.f94.body.getD .skip) rfl Tryz.results94 Tryz.ntmps94 Tryz.call94 ?_
 simp only[Tryz.f94,Option.getD]
 repeat'(first|refine zq @zaj ?_|exact zd @zaj|(refine zaa ?_ ?_<;>intro hb)|(refine And.intro ?_ ?_;exact zI)|(refine And.intro ?_ ?_<;>intro hg)|exact zC|fail)
 refine zao (τ:=Nat) (fun i=>⟨[al l.length (zav l),dd,dd,ai i,dd,dd,dd,dd,dd,dd,dd,dd,dd,dd,dd,dd,dd,dd,dd,dd,dd,dd,dd,dd,dd,dd,dd,dd,dd,dd,dd,dd,dd,dd,dd,dd,dd,dd,dd,dd,dd,dd,dd,dd,dd,dd],[]⟩)
  (fun i=>i≤l.length) (fun i=>zbq (zhW l) i (l.drop i)) (fun i=>l.length - i) 0
  (Gh.canon [] [] [] zK rfl rfl) (Nat.zero_le _) ?_
 intro i hi0 hF K hK
 simp only[List.drop_zero]at hF hK⊢
 have hF:zbq (zhW l) i (l.drop i)=memoB l:=hF
 refine zw ?_
 refine zaa (fun hlt=> ?_) (fun hge=> ?_)
 ·have hi:i<l.length:=by simpa using hlt
  have hat:=zbu hi
  have hw:=zan hi (by omega)
  rw[zaR hi]at hF
  have han:=zfi l[i] (hll _ (List.getElem_mem hi))
  cases e0:decide ((i:Int)>0)
  ·have hq:zhW l i l[i]= !(!(answerB l[i])):=by
    unfold zhW
    have h0:decide (i>0)=false:=by simpa using e0
    rw[h0,Bool.false_and,Bool.or_false]
   have h0:i=0:=by simpa using e0
   have hp:(zav l).drop ((IntKind.i64.wrap ((i:Int) - 1)).toNat*6)=l[i].enc++zav (l.drop (i+1)):=by
    rw[←zbu hi,h0];rfl
   repeat'(first|refine zq (I hat (I hp (I e0 (I @zaj zca)))) ?_|exact zd (I hat (I hp (I e0 (I @zaj zca))))|refine zc (han) ?_|refine zg (han) ?_|(refine zaa ?_ ?_<;>intro hb)|(refine And.intro ?_ ?_;exact zI)|(refine And.intro ?_ ?_<;>intro hg)|exact zC|fail)
   ·rw[hq,hb,if_neg (by simp)]at hF
    rw[←hF]
   ·exact hK _ (i+1) (Gh.canon [] [] [] (zk hw) rfl rfl) hi (by rw[zaR hi,hq,hb];rfl) (by omega)
  ·have hq:zhW l i l[i]= !(!(answerB l[i])||decide (l[i].client≤(l[i - 1]'(by omega)).client)):=by
    unfold zhW znl
    have h0:decide (i>0)=true:=by simpa using e0
    rw[h0,Bool.true_and,List.getElem?_eq_getElem (by omega)]
    rfl
   have h0:0<i:=by simpa using e0
   have hp:=zbu (show i - 1<l.length by omega)
   have hw1:IntKind.i64.wrap ((i:Int) - 1)=((i - 1:Nat):Int):=by rw[wrap64 (by omega) (by omega)];omega
   repeat'(first|refine zq (I hat (I hp (I hw1 (I e0 (I @zaj zca))))) ?_|exact zd (I hat (I hp (I hw1 (I e0 (I @zaj zca)))))|refine zc (han) ?_|refine zg (han) ?_|(refine zaa ?_ ?_<;>intro hb)|(refine And.intro ?_ ?_;exact zI)|(refine And.intro ?_ ?_<;>intro hg)|exact zC|fail)
   ·rw[hq,hb,if_neg (by simp)]at hF
    rw[←hF]
   ·exact hK _ (i+1) (Gh.canon [] [] [] (zk hw) rfl rfl) hi (by rw[zaR hi,hq,hb];rfl) (by omega)
 ·have hi:i=l.length:=by
   have:¬(i:Int)<l.length:=by simpa using hge
   omega
  rw[zcM hi]at hF
  rw[←hF]
  repeat'(first|refine zq0 ?_|exact zd0|(refine zaa ?_ ?_<;>intro hb)|(refine And.intro ?_ ?_;exact zI)|(refine And.intro ?_ ?_<;>intro hg)|exact zC|fail)
def zew (s:St) (k:Lk):Bool:=(zaC s.sess k.holder).isSome&&decide (k.token≤s.token)&&k.line.all fun c=>(zaC s.sess c).isSome
theorem zmV (s:St):((s.locks.all fun k=>decide (k.token≤s.token))&&zhX s)=s.locks.all (zew s):=by
 unfold zhX
 generalize s.locks=l
 induction l with
 |nil=>rfl
 |cons k l ih=>
  simp only[List.all_cons]at ih⊢
  rw[←ih]
  unfold zew
  generalize (l.all fun k=>decide (k.token≤s.token))=a
  generalize (l.all fun k=>(zaC s.sess k.holder).isSome&&k.line.all fun c=>(zaC s.sess c).isSome)=b
  generalize (k.line.all fun c=>(zaC s.sess c).isSome)=c
  generalize (zaC s.sess k.holder).isSome=d
  generalize decide (k.token≤s.token)=e
  cases a<;>cases b<;>cases c<;>cases d<;>cases e<;>rfl
set_option maxHeartbeats 4000000 in
theorem zo2 (s:St) (h:Small s):CallOK Tryz.prog 51 [.f (.agg s.lent)] (fun r o=>r=[rb (zfK s)]∧o=[]):=by
 refine zac zar mixed (T:=Ty) (n:=110) Tryz.func51 (c:=Tryz.f51.body.getD .skip) rfl Tryz.results51 Tryz.ntmps51 Tryz.call51 ?_
 simp only[Tryz.f51,Option.getD]
 have w1:CallOK Tryz.prog 91 [.f (ai s.time), .f (ai 0)] (fun r o=>r=[rb (within s.time)]∧o=[]):=zc5 s.time 0
 have w2:CallOK Tryz.prog 91 [.f (ai s.num), .f (ai 0)] (fun r o=>r=[rb (within s.num)]∧o=[]):=zc5 s.num 0
 have w3:CallOK Tryz.prog 91 [.f (ai s.token), .f (ai 0)] (fun r o=>r=[rb (within s.token)]∧o=[]):=zc5 s.token 0
 have hsr:=zqy s.sess h.sess
 have hlr:=zo5 s.locks h.locks h.line
 have hmr:=zo1 s.memos h.memos h.held
 have hns:=h.sess
 have hnl:=h.locks
 cases hA:(!within s.time|| !within s.num|| !within s.token|| !sessB s.sess|| !lockB s.locks|| !memoB s.memos)
 ·have hrb:zfK s=((s.sess.all fun x=>decide (x.num≤s.num))&&s.locks.all (zew s)):=by
   rw[←zmV]
   unfold zfK
   simp at hA
   rw[hA.1.1.1.1.1,hA.1.1.1.1.2,hA.1.1.1.2,hA.1.1.2,hA.1.2,hA.2]
   simp only[Bool.true_and,Bool.and_assoc]
  repeat'(first|refine zq hA ?_|exact zd hA|refine zc (w1) ?_|refine zg (w1) ?_|refine zc (w2) ?_|refine zg (w2) ?_|refine zc (w3) ?_|refine zg (w3) ?_|refine zc (hsr) ?_|refine zg (hsr) ?_|refine zc (hlr) ?_|refine zg (hlr) ?_|refine zc (hmr) ?_|refine zg (hmr) ?_|(refine zaa ?_ ?_<;>intro hb)|(refine And.intro ?_ ?_;exact zI)|(refine And.intro ?_ ?_<;>intro hg)|exact zC|fail)
  refine zao (τ:=Nat) (fun i=>⟨[dd, .one (.ptr ⟨1,0,1⟩ 0),dd,ai i,dd,dd,dd,dd,dd,dd,dd,dd,dd,dd,dd,dd,dd,dd,dd,dd,dd,dd,dd,dd,dd,dd,dd,dd,dd,dd,dd,dd,dd,dd,dd,dd,dd,dd,dd,dd,dd,dd,dd,dd,dd,dd,dd,dd,dd,dd,dd,dd,dd,dd,dd,dd,dd,dd,dd,dd,dd,dd,dd,dd,dd,dd,dd,dd,dd,dd,dd,dd,dd,dd,dd,dd,dd,dd,dd,dd,dd,dd,dd,dd,dd,dd,dd,dd,dd,dd,dd,dd,dd,dd,dd,dd,dd,dd,dd,dd,dd,dd,dd,dd,dd,dd,dd,dd,dd,dd],[(1,{next:=2,l:=[some {e:=1,var:=true,fz:=false,sz:=0,cells:=[di s.time,di s.num,di s.token, .lent s.sess.length (zaF s.sess), .lent s.locks.length (zah s.locks), .lent s.memos.length (zav s.memos)]},none,none,none,none,none,none]})]⟩)
   (fun i=>i≤s.sess.length) (fun i=>(s.sess.drop i).all fun x=>decide (x.num≤s.num)) (fun i=>s.sess.length - i) 0
   (Gh.canon [1] [] [] zK rfl rfl) (Nat.zero_le _) ?_
  intro i hi0 hF K hK
  rw[List.drop_zero]at hF
  refine zw ?_
  refine zaa (fun hlt=> ?_) (fun hge=> ?_)
  ·have hi:i<s.sess.length:=by simpa using hlt
   have hat:=zbs hi
   have hw:=zan hi (by omega)
   rw[List.drop_eq_getElem_cons hi,List.all_cons]at hF
   repeat'(first|refine zq (I hat (I @zai zca)) ?_|exact zd (I hat (I @zai zca))|(refine zaa ?_ ?_<;>intro hb)|(refine And.intro ?_ ?_;exact zI)|(refine And.intro ?_ ?_<;>intro hg)|exact zC|fail)
   ·have e:decide (s.sess[i].num≤s.num)=false:=by simp at hb⊢;omega
    rw[e,Bool.false_and]at hF
    rw[hrb,←hF]
    rfl
   ·have e:decide (s.sess[i].num≤s.num)=true:=by simp at hb⊢;omega
    exact hK _ (i+1) (Gh.canon [1] [] [] (zk hw) rfl rfl) hi (by rw[List.drop_eq_getElem_cons hi,List.all_cons,e,Bool.true_and]) (by omega)
  ·have hi:i=s.sess.length:=by
    have:¬(i:Int)<s.sess.length:=by simpa using hge
    omega
   rw[hi,List.drop_length,List.all_nil]at hF
   rw[←hF,Bool.true_and]at hrb
   rw[hrb]
   repeat'(first|refine zq0 ?_|exact zd0|(refine zaa ?_ ?_<;>intro hb)|(refine And.intro ?_ ?_;exact zI)|(refine And.intro ?_ ?_<;>intro hg)|exact zC|fail)
   refine zao (τ:=Nat) (fun i=>⟨[dd, .one (.ptr ⟨1,0,1⟩ 0),dd,dd,ai i,dd,dd,dd,dd,dd,dd,dd,dd,dd,dd,dd,dd,dd,dd,dd,dd,dd,dd,dd,dd,dd,dd,dd,dd,dd,dd,dd,dd,dd,dd,dd,dd,dd,dd,dd,dd,dd,dd,dd,dd,dd,dd,dd,dd,dd,dd,dd,dd,dd,dd,dd,dd,dd,dd,dd,dd,dd,dd,dd,dd,dd,dd,dd,dd,dd,dd,dd,dd,dd,dd,dd,dd,dd,dd,dd,dd,dd,dd,dd,dd,dd,dd,dd,dd,dd,dd,dd,dd,dd,dd,dd,dd,dd,dd,dd,dd,dd,dd,dd,dd,dd,dd,dd,dd,dd],[(1,{next:=2,l:=[some {e:=1,var:=true,fz:=false,sz:=0,cells:=[di s.time,di s.num,di s.token, .lent s.sess.length (zaF s.sess), .lent s.locks.length (zah s.locks), .lent s.memos.length (zav s.memos)]},none,none,none,none,none,none]}),(5,⟨2,[]⟩),(6,⟨2,[]⟩),(9,⟨2,[]⟩)]⟩)
    (fun i=>i≤s.locks.length) (fun i=>(s.locks.drop i).all (zew s)) (fun i=>s.locks.length - i) 0
    (Gh.canon [1] [5,6,9] [] zK rfl rfl) (Nat.zero_le _) ?_
   clear hF hK
   intro i hi0 hF K hK
   rw[List.drop_zero]at hF
   refine zw ?_
   refine zaa (fun hlt2=> ?_) (fun hge2=> ?_)
   ·have hi:i<s.locks.length:=by simpa using hlt2
    have hat:=zaJ hi
    have hw:=zan hi (by omega)
    have hlo:=(h.line _ (List.getElem_mem hi)).1
    rw[List.drop_eq_getElem_cons hi,List.all_cons]at hF
    have hfi:=zcK s.sess (by omega) s.locks[i].holder
    cases ha:(zaC s.sess s.locks[i].holder).isSome
    ·have e:zew s s.locks[i]=false:=by unfold zew;rw[ha];rfl
     rw[e,Bool.false_and]at hF
     rw[ha]at hfi
     repeat'(first|refine zq (I hat (I @zad zca)) ?_|exact zd (I hat (I @zad zca))|refine zc (hfi) ?_|refine zg (hfi) ?_|(refine zaa ?_ ?_<;>intro hb)|(refine And.intro ?_ ?_;exact zI)|(refine And.intro ?_ ?_<;>intro hg)|exact zC|fail)
     rw[←hF]
    ·rw[ha]at hfi
     cases hb0:decide (s.locks[i].token>s.token)
     ·have e:zew s s.locks[i]=s.locks[i].line.all fun c=>(zaC s.sess c).isSome:=by
       unfold zew
       rw[ha,show decide (s.locks[i].token≤s.token)=true by simp at hb0⊢;omega];rfl
      rw[e]at hF
      repeat'(first|refine zq (I hat (I hb0 (I @zad zca))) ?_|exact zd (I hat (I hb0 (I @zad zca)))|refine zc (hfi) ?_|refine zg (hfi) ?_|(refine zaa ?_ ?_<;>intro hb)|(refine And.intro ?_ ?_;exact zI)|(refine And.intro ?_ ?_<;>intro hg)|exact zC|fail)
      refine zao (τ:=Nat) (fun j=>⟨[dd, .one (.ptr ⟨1,0,1⟩ 0),dd,dd,ai i, .one (.ptr ⟨5,0,1⟩ 0),dd,dd,ai j,dd,dd,dd,dd,dd,dd,dd,dd,dd,dd,dd,dd,dd,dd,dd,dd,dd,dd,dd,dd,dd,dd,dd,dd,dd,dd,dd,dd,dd,dd,dd,dd,dd,dd,dd,dd,dd,dd,dd,dd,dd,dd,dd,dd,dd,dd,dd,dd,dd,dd,dd,dd,dd,dd,dd,dd,dd,dd,dd,dd,dd,dd,dd,dd,dd,dd,dd,dd,dd,dd,dd,dd,dd,dd,dd,dd,dd,dd,dd,dd,dd,dd,dd,dd,dd,dd,dd,dd,dd,dd,dd,dd,dd,dd,dd,dd,dd,dd,dd,dd,dd],[(1,{next:=2,l:=[some {e:=1,var:=true,fz:=false,sz:=0,cells:=[di s.time,di s.num,di s.token, .lent s.sess.length (zaF s.sess), .lent s.locks.length (zah s.locks), .lent s.memos.length (zav s.memos)]},none,none,none,none,none,none]}),(5,{next:=2,l:=[some {e:=1,var:=true,fz:=false,sz:=0,cells:=[.d (sD s.locks[i].name),di s.locks[i].holder,di s.locks[i].token, .d (.sl s.locks[i].line.length (zat s.locks[i].line))]},none,none,none,none]}),(6,⟨2,[]⟩),(9,⟨2,[]⟩)]⟩)
       (fun j=>j≤s.locks[i].line.length) (fun j=>(s.locks[i].line.drop j).all fun c=>(zaC s.sess c).isSome) (fun j=>s.locks[i].line.length - j) 0
       (Gh.canon [1,5] [] [] zK rfl rfl) (Nat.zero_le _) ?_
      intro j hj0 hF2 K2 hK2
      rw[List.drop_zero]at hF2
      refine zw ?_
      refine zaa (fun hlt3=> ?_) (fun hge3=> ?_)
      ·have hj:j<s.locks[i].line.length:=by simpa using hlt3
       have haj:=zcx hj
       have hwj:=zan hj (by omega)
       have hfj:=zcK s.sess (by omega) s.locks[i].line[j]
       rw[List.drop_eq_getElem_cons hj,List.all_cons]at hF2
       cases hb:(zaC s.sess s.locks[i].line[j]).isSome
       ·rw[hb]at hfj hF2
        rw[←hF2]at hF
        repeat'(first|refine zq (I haj (I @zaf zca)) ?_|exact zd (I haj (I @zaf zca))|refine zc (hfj) ?_|refine zg (hfj) ?_|(refine zaa ?_ ?_<;>intro hb)|(refine And.intro ?_ ?_;exact zI)|(refine And.intro ?_ ?_<;>intro hg)|exact zC|fail)
        rw[←hF]
        rfl
       ·rw[hb]at hfj hF2
        repeat'(first|refine zq (I haj (I @zaf zca)) ?_|exact zd (I haj (I @zaf zca))|refine zc (hfj) ?_|refine zg (hfj) ?_|(refine zaa ?_ ?_<;>intro hb)|(refine And.intro ?_ ?_;exact zI)|(refine And.intro ?_ ?_<;>intro hg)|exact zC|fail)
        exact hK2 _ (j+1) (Gh.canon [1,5] [] [] (zk hwj) rfl rfl) hj (by rw[List.drop_eq_getElem_cons hj,List.all_cons,hb,Bool.true_and]) (by omega)
      ·have hj:j=s.locks[i].line.length:=by
        have:¬(j:Int)<s.locks[i].line.length:=by simpa using hge3
        omega
       rw[hj,List.drop_length,List.all_nil]at hF2
       repeat'(first|refine zq0 ?_|exact zd0|(refine zaa ?_ ?_<;>intro hb)|(refine And.intro ?_ ?_;exact zI)|(refine And.intro ?_ ?_<;>intro hg)|exact zC|fail)
       exact hK _ (i+1) (Gh.canon [1] [] [] (zk hw) rfl rfl) hi (by rw[List.drop_eq_getElem_cons hi,List.all_cons,e,←hF2,Bool.true_and]) (by omega)
     ·have e:zew s s.locks[i]=false:=by
       unfold zew
       rw[ha,show decide (s.locks[i].token≤s.token)=false by simp at hb0⊢;omega];rfl
      rw[e,Bool.false_and]at hF
      repeat'(first|refine zq (I hat (I hb0 (I @zad zca))) ?_|exact zd (I hat (I hb0 (I @zad zca)))|refine zc (hfi) ?_|refine zg (hfi) ?_|(refine zaa ?_ ?_<;>intro hb)|(refine And.intro ?_ ?_;exact zI)|(refine And.intro ?_ ?_<;>intro hg)|exact zC|fail)
      rw[←hF]
   ·have hi:i=s.locks.length:=by
     have:¬(i:Int)<s.locks.length:=by simpa using hge2
     omega
    rw[hi,List.drop_length,List.all_nil]at hF
    rw[←hF]
    repeat'(first|refine zq0 ?_|exact zd0|(refine zaa ?_ ?_<;>intro hb)|(refine And.intro ?_ ?_;exact zI)|(refine And.intro ?_ ?_<;>intro hg)|exact zC|fail)
 ·have hrb:zfK s=false:=by
   unfold zfK
   simp only[Bool.or_eq_true,Bool.not_eq_true']at hA
   rcases hA with((((h|h)|h)|h)|h)|h<;>rw[h]<;>simp
  rw[hrb]
  repeat'(first|refine zq hA ?_|exact zd hA|refine zc (w1) ?_|refine zg (w1) ?_|refine zc (w2) ?_|refine zg (w2) ?_|refine zc (w3) ?_|refine zg (w3) ?_|refine zc (hsr) ?_|refine zg (hsr) ?_|refine zc (hlr) ?_|refine zg (hlr) ?_|refine zc (hmr) ?_|refine zg (hmr) ?_|(refine zaa ?_ ?_<;>intro hb)|(refine And.intro ?_ ?_;exact zI)|(refine And.intro ?_ ?_<;>intro hg)|exact zC|fail)
def zkc (s:St):Bool:=zfK s&&decide (s.num≤2305843009213692952)&&decide (s.token≤2305843009213692952)
theorem zoZ (s:St) (h:Small s):CallOK Tryz.prog 26 [.f (.agg s.lent)] (fun r o=>r=[rb (zkc s)]∧o=[]):=by
 refine zac zar mixed (T:=Ty) (n:=15) Tryz.func26 (c:=Tryz.f26.body.getD .skip) rfl Tryz.results26 Tryz.ntmps26 Tryz.call26 ?_
 simp only[Tryz.f26,Option.getD]
 have hr:=zo2 s h
 repeat'(first|refine zq0 ?_|exact zd0|refine zc (hr) ?_|refine zg (hr) ?_|(refine zaa ?_ ?_<;>intro hb)|(refine And.intro ?_ ?_;exact zI)|(refine And.intro ?_ ?_<;>intro hg)|exact zC|fail)
 rfl
def zwf (k:Lk):Bool:=decide ((k.name.size:Int)>300)||decide ((k.line.length:Int)>20)
def zwg (m:Memo):Bool:=decide ((m.reply.held.length:Int)>20)
def zv0 (s:St):Bool:=if(decide ((s.sess.length:Int)>20)||decide ((s.locks.length:Int)>20)||decide ((s.memos.length:Int)>20))=true then true else if s.locks.any zwf=true then true else s.memos.any zwg
def zc6 {α:Type} (eq:α→α→Bool) (a b:List α):Bool:=(a.length==b.length)&&((a.zip b).all fun p=>eq p.1 p.2)
def zfV {α:Type} (eq:α→α→Bool) (a b:List α) (i:Nat):Bool:=((a.drop i).zip (b.drop i)).all fun p=>eq p.1 p.2
theorem zdv {α:Type} {eq:α→α→Bool} {a b:List α} {i:Nat} (ha:i<a.length) (hb:i<b.length):zfV eq a b i=(eq a[i] b[i]&&zfV eq a b (i+1)):=by
 unfold zfV
 rw[List.drop_eq_getElem_cons ha,List.drop_eq_getElem_cons hb,List.zip_cons_cons,List.all_cons]
theorem zd7 {α:Type} {eq:α→α→Bool} {a b:List α} {i:Nat} (ha:i=a.length):zfV eq a b i=true:=by
 unfold zfV
 rw[List.drop_eq_nil_of_le (by omega)];simp
theorem zfl {α:Type} {eq:α→α→Bool} {a b:List α} (h:((a.length:Int) !=(b.length:Int))=true):zc6 eq a b=false:=by
 unfold zc6
 simp at h
 simp;omega
theorem zfm {α:Type} {eq:α→α→Bool} {a b:List α} (h:((a.length:Int) !=(b.length:Int))=false):a.length=b.length∧zc6 eq a b=zfV eq a b 0:=by
 have hl:a.length=b.length:=by simp at h;omega
 unfold zc6 zfV
 simp[hl]
def zmX (a b:Int):Bool:=a==b
def zqA (a b:Grant):Bool:=(a.name.toList==b.name.toList)&&(a.token==b.token)
def zsx (a b:Sess):Bool:=(a.client==b.client)&&((a.num==b.num)&&(a.renewed==b.renewed))
def zqB (a b:Lk):Bool:=(a.name.toList==b.name.toList)&&(a.holder==b.holder)&&(a.token==b.token)&&zc6 zmX a.line b.line
def eqRe (a b:Reply):Bool:=(a.code==b.code)&&(a.session==b.session)&&(a.ahead==b.ahead)&&zc6 zqA a.held b.held
def ziG (a b:Memo):Bool:=(a.client==b.client)&&(a.seq==b.seq)&&(a.reply.code==b.reply.code)&&(a.reply.session==b.reply.session)&&(a.reply.ahead==b.reply.ahead)&&zc6 zqA a.reply.held b.reply.held
def ztC (a b:St):Bool:=(a.time==b.time)&&(a.num==b.num)&&(a.token==b.token)&&zc6 zsx a.sess b.sess&&zc6 zqB a.locks b.locks&&zc6 ziG a.memos b.memos
theorem zo7 {a b:List Int}:sameI a b=zc6 zmX a b:=rfl
abbrev afn (n:Nat):AV:= .one (.d (.v (.func (.func n) #[] #[])))
set_option maxHeartbeats 1000000 in
theorem zmY (a b:List Grant) (ha:a.length<2^30) (hb:b.length<2^30):CallOK Tryz.prog 130 [.f (al a.length (zaG a)), .f (al b.length (zaG b))] (fun r o=>r=[rb (zc6 zqA a b)]∧o=[]):=by
 refine zac zar mixed (T:=Ty) (n:=26) Tryz.func130 (c:=Tryz.f130.body.getD .skip) rfl Tryz.results130 Tryz.ntmps130 Tryz.call130 ?_
 simp only[Tryz.f130,Option.getD]
 cases hl:((a.length:Int) !=(b.length:Int))
 ·obtain⟨hle,hsr⟩:=zfm (eq:=zqA) hl
  rw[hsr]
  repeat'(first|refine zq hl ?_|exact zd hl|(refine zaa ?_ ?_<;>intro hb)|(refine And.intro ?_ ?_;exact zI)|(refine And.intro ?_ ?_<;>intro hg)|exact zC|fail)
  refine zao (τ:=Nat) (fun i=>⟨[al a.length (zaG a),al b.length (zaG b),dd,dd,dd,ai i,dd,dd,dd,dd,dd,dd,dd,dd,dd,dd,dd,dd,dd,dd,dd,dd,dd,dd,dd,dd],[]⟩)
   (fun i=>i≤a.length) (fun i=>zfV zqA a b i) (fun i=>a.length - i) 0
   (Gh.canon [] [] [] zK rfl rfl) (Nat.zero_le _) ?_
  intro i hi0 hF K hK
  refine zw ?_
  refine zaa (fun hlt=> ?_) (fun hge=> ?_)
  ·have hi:i<a.length:=by simpa using hlt
   have hi2:i<b.length:=by omega
   have hat:=zcD hi
   have hat2:=zcD hi2
   have hw:=zan hi (by omega)
   have hlb:decide ((i:Int)<a.length)=true:=by simp;omega
   have hst:=zdv (eq:=zqA) hi hi2
   cases hq:zqA a[i] b[i]
   ·rw[hq]at hst
    have he:((a[i].name.toList==b[i].name.toList)&&(a[i].token==b[i].token))=false:=by exact hq
    rw[←hF,hst]
    repeat'(first|refine zq (I hat (I hat2 (I hlb (I he (I @Bool.not_true (I @Bool.not_false (I @Bool.and_self (I @zaW zca)))))))) ?_|exact zd (I hat (I hat2 (I hlb (I he (I @Bool.not_true (I @Bool.not_false (I @Bool.and_self (I @zaW zca))))))))|(refine zaa ?_ ?_<;>intro hb)|(refine And.intro ?_ ?_;exact zI)|(refine And.intro ?_ ?_<;>intro hg)|exact zC|fail)
   ·rw[hq,Bool.true_and]at hst
    have he:((a[i].name.toList==b[i].name.toList)&&(a[i].token==b[i].token))=true:=by exact hq
    repeat'(first|refine zq (I hat (I hat2 (I hlb (I he (I @Bool.not_true (I @Bool.not_false (I @Bool.and_self (I @zaW zca)))))))) ?_|exact zd (I hat (I hat2 (I hlb (I he (I @Bool.not_true (I @Bool.not_false (I @Bool.and_self (I @zaW zca))))))))|(refine zaa ?_ ?_<;>intro hb)|(refine And.intro ?_ ?_;exact zI)|(refine And.intro ?_ ?_<;>intro hg)|exact zC|fail)
    exact hK _ (i+1) (Gh.canon [] [] [] (zk hw) rfl rfl) hi hst.symm (by omega)
  ·have hi:i=a.length:=by
    have:¬(i:Int)<a.length:=by simpa using hge
    omega
   rw[←hF,zd7 hi]
   repeat'(first|refine zq0 ?_|exact zd0|(refine zaa ?_ ?_<;>intro hb)|(refine And.intro ?_ ?_;exact zI)|(refine And.intro ?_ ?_<;>intro hg)|exact zC|fail)
 ·rw[zfl hl]
  repeat'(first|refine zq hl ?_|exact zd hl|(refine zaa ?_ ?_<;>intro hb)|(refine And.intro ?_ ?_;exact zI)|(refine And.intro ?_ ?_<;>intro hg)|exact zC|fail)
theorem zke (a b:Reply) (ha:a.held.length<2^30) (hb:b.held.length<2^30):CallOK Tryz.prog 89 [.f (.agg a.lent), .f (.agg b.lent)] (fun r o=>r=[rb (eqRe a b)]∧o=[]):=by
 refine zac zar mixed (T:=Ty) (n:=31) Tryz.func89 (c:=Tryz.f89.body.getD .skip) rfl Tryz.results89 Tryz.ntmps89 Tryz.call89 ?_
 simp only[Tryz.f89,Option.getD]
 have hi:=zmY a.held b.held ha hb
 repeat'(first|refine zq0 ?_|exact zd0|refine zc (hi) ?_|refine zg (hi) ?_|(refine zaa ?_ ?_<;>intro hb)|(refine And.intro ?_ ?_;exact zI)|(refine And.intro ?_ ?_<;>intro hg)|exact zC|fail)
 rfl
set_option maxHeartbeats 1000000 in
theorem zo8 (a b:List Sess) (ha:a.length<2^30) (hb:b.length<2^30):CallOK Tryz.prog 48 [.f (al a.length (zaF a)), .f (al b.length (zaF b))] (fun r o=>r=[rb (zc6 zsx a b)]∧o=[]):=by
 refine zac zar mixed (T:=Ty) (n:=26) Tryz.func48 (c:=Tryz.f48.body.getD .skip) rfl Tryz.results48 Tryz.ntmps48 Tryz.call48 ?_
 simp only[Tryz.f48,Option.getD]
 cases hl:((a.length:Int) !=(b.length:Int))
 ·obtain⟨hle,hsr⟩:=zfm (eq:=zsx) hl
  rw[hsr]
  repeat'(first|refine zq hl ?_|exact zd hl|(refine zaa ?_ ?_<;>intro hb)|(refine And.intro ?_ ?_;exact zI)|(refine And.intro ?_ ?_<;>intro hg)|exact zC|fail)
  refine zao (τ:=Nat) (fun i=>⟨[al a.length (zaF a),al b.length (zaF b),dd,dd,dd,ai i,dd,dd,dd,dd,dd,dd,dd,dd,dd,dd,dd,dd,dd,dd,dd,dd,dd,dd,dd,dd],[]⟩)
   (fun i=>i≤a.length) (fun i=>zfV zsx a b i) (fun i=>a.length - i) 0
   (Gh.canon [] [] [] zK rfl rfl) (Nat.zero_le _) ?_
  intro i hi0 hF K hK
  refine zw ?_
  refine zaa (fun hlt=> ?_) (fun hge=> ?_)
  ·have hi:i<a.length:=by simpa using hlt
   have hi2:i<b.length:=by omega
   have hat:=zbs hi
   have hat2:=zbs hi2
   have hw:=zan hi (by omega)
   have hlb:decide ((i:Int)<a.length)=true:=by simp;omega
   have hst:=zdv (eq:=zsx) hi hi2
   cases hq:zsx a[i] b[i]
   ·rw[hq]at hst
    have he:((a[i].client==b[i].client)&&((a[i].num==b[i].num)&&(a[i].renewed==b[i].renewed)))=false:=by exact hq
    rw[←hF,hst]
    repeat'(first|refine zq (I hat (I hat2 (I hlb (I he (I @Bool.not_true (I @Bool.not_false (I @Bool.and_self (I @zai zca)))))))) ?_|exact zd (I hat (I hat2 (I hlb (I he (I @Bool.not_true (I @Bool.not_false (I @Bool.and_self (I @zai zca))))))))|(refine zaa ?_ ?_<;>intro hb)|(refine And.intro ?_ ?_;exact zI)|(refine And.intro ?_ ?_<;>intro hg)|exact zC|fail)
   ·rw[hq,Bool.true_and]at hst
    have he:((a[i].client==b[i].client)&&((a[i].num==b[i].num)&&(a[i].renewed==b[i].renewed)))=true:=by exact hq
    repeat'(first|refine zq (I hat (I hat2 (I hlb (I he (I @Bool.not_true (I @Bool.not_false (I @Bool.and_self (I @zai zca)))))))) ?_|exact zd (I hat (I hat2 (I hlb (I he (I @Bool.not_true (I @Bool.not_false (I @Bool.and_self (I @zai zca))))))))|(refine zaa ?_ ?_<;>intro hb)|(refine And.intro ?_ ?_;exact zI)|(refine And.intro ?_ ?_<;>intro hg)|exact zC|fail)
    exact hK _ (i+1) (Gh.canon [] [] [] (zk hw) rfl rfl) hi hst.symm (by omega)
  ·have hi:i=a.length:=by
    have:¬(i:Int)<a.length:=by simpa using hge
    omega
   rw[←hF,zd7 hi]
   repeat'(first|refine zq0 ?_|exact zd0|(refine zaa ?_ ?_<;>intro hb)|(refine And.intro ?_ ?_;exact zI)|(refine And.intro ?_ ?_<;>intro hg)|exact zC|fail)
 ·rw[zfl hl]
  repeat'(first|refine zq hl ?_|exact zd hl|(refine zaa ?_ ?_<;>intro hb)|(refine And.intro ?_ ?_;exact zI)|(refine And.intro ?_ ?_<;>intro hg)|exact zC|fail)
set_option maxHeartbeats 1000000 in
theorem zmZ (a b:List Lk) (ha:a.length<2^30) (hb:b.length<2^30) (hla:∀x∈a,x.line.length<2^30) (hlb2:∀x∈b,x.line.length<2^30):CallOK Tryz.prog 49 [.f (al a.length (zah a)), .f (al b.length (zah b))] (fun r o=>r=[rb (zc6 zqB a b)]∧o=[]):=by
 refine zac zar mixed (T:=Ty) (n:=68) Tryz.func49 (c:=Tryz.f49.body.getD .skip) rfl Tryz.results49 Tryz.ntmps49 Tryz.call49 ?_
 simp only[Tryz.f49,Option.getD]
 cases hl:((a.length:Int) !=(b.length:Int))
 ·obtain⟨hle,hsr⟩:=zfm (eq:=zqB) hl
  rw[hsr]
  repeat'(first|refine zq hl ?_|exact zd hl|(refine zaa ?_ ?_<;>intro hb)|(refine And.intro ?_ ?_;exact zI)|(refine And.intro ?_ ?_<;>intro hg)|exact zC|fail)
  refine zao (τ:=Nat) (fun i=>⟨[al a.length (zah a),al b.length (zah b),dd,dd,dd,ai i,dd,dd,dd,dd,dd,dd,dd,dd,dd,dd,dd,dd,dd,dd,dd,dd,dd,dd,dd,dd,dd,dd,dd,dd,dd,dd,dd,dd,dd,dd,dd,dd,dd,dd,dd,dd,dd,dd,dd,dd,dd,dd,dd,dd,dd,dd,dd,dd,dd,dd,dd,dd,dd,dd,dd,dd,dd,dd,dd,dd,dd,dd],[]⟩)
   (fun i=>i≤a.length) (fun i=>zfV zqB a b i) (fun i=>a.length - i) 0
   (Gh.canon [] [] [] zK rfl rfl) (Nat.zero_le _) ?_
  intro i hi0 hF K hK
  refine zw ?_
  refine zaa (fun hlt=> ?_) (fun hge=> ?_)
  ·have hi:i<a.length:=by simpa using hlt
   have hi2:i<b.length:=by omega
   have hat:=zaJ hi
   have hat2:=zaJ hi2
   have hw:=zan hi (by omega)
   have hlb:decide ((i:Int)<a.length)=true:=by simp;omega
   have hst:=zdv (eq:=zqB) hi hi2
   have hd1:(zah a).drop (i*4+1)=iD a[i].holder::iD a[i].token:: .sl a[i].line.length (zat a[i].line)::zah (a.drop (i+1)):=by rw[←List.drop_drop,hat];rfl
   have hd2:(zah b).drop (i*4+1)=iD b[i].holder::iD b[i].token:: .sl b[i].line.length (zat b[i].line)::zah (b.drop (i+1)):=by rw[←List.drop_drop,hat2];rfl
   have hsi:=zkp a[i].line b[i].line (by have:=hla _ (List.getElem_mem hi);omega) (by have:=hlb2 _ (List.getElem_mem hi2);omega)
   cases hq:zqB a[i] b[i]
   ·rw[hq]at hst
    have he:((((!(a[i].name.toList==b[i].name.toList))||(a[i].holder !=b[i].holder))||(a[i].token !=b[i].token))|| !sameI a[i].line b[i].line)=true:=by unfold zqB at hq;rw[zo7];revert hq;cases zc6 zmX a[i].line b[i].line<;>cases h1:(a[i].name.toList==b[i].name.toList)<;>cases h2:(a[i].holder==b[i].holder)<;>cases h3:(a[i].token==b[i].token)<;>simp[bne,h1,h2,h3]
    rw[←hF,hst]
    repeat'(first|refine zq (I hat (I hat2 (I hlb (I he (I @Bool.not_true (I @Bool.not_false (I @Bool.and_self (I hd1 (I hd2 (I @zad zca)))))))))) ?_|exact zd (I hat (I hat2 (I hlb (I he (I @Bool.not_true (I @Bool.not_false (I @Bool.and_self (I hd1 (I hd2 (I @zad zca))))))))))|refine zc (hsi) ?_|refine zg (hsi) ?_|(refine zaa ?_ ?_<;>intro hb)|(refine And.intro ?_ ?_;exact zI)|(refine And.intro ?_ ?_<;>intro hg)|exact zC|fail)
   ·rw[hq,Bool.true_and]at hst
    have he:((((!(a[i].name.toList==b[i].name.toList))||(a[i].holder !=b[i].holder))||(a[i].token !=b[i].token))|| !sameI a[i].line b[i].line)=false:=by unfold zqB at hq;rw[zo7];revert hq;cases zc6 zmX a[i].line b[i].line<;>cases h1:(a[i].name.toList==b[i].name.toList)<;>cases h2:(a[i].holder==b[i].holder)<;>cases h3:(a[i].token==b[i].token)<;>simp[bne,h1,h2,h3]
    repeat'(first|refine zq (I hat (I hat2 (I hlb (I he (I @Bool.not_true (I @Bool.not_false (I @Bool.and_self (I hd1 (I hd2 (I @zad zca)))))))))) ?_|exact zd (I hat (I hat2 (I hlb (I he (I @Bool.not_true (I @Bool.not_false (I @Bool.and_self (I hd1 (I hd2 (I @zad zca))))))))))|refine zc (hsi) ?_|refine zg (hsi) ?_|(refine zaa ?_ ?_<;>intro hb)|(refine And.intro ?_ ?_;exact zI)|(refine And.intro ?_ ?_<;>intro hg)|exact zC|fail)
    exact hK _ (i+1) (Gh.canon [] [] [] (zk hw) rfl rfl) hi hst.symm (by omega)
  ·have hi:i=a.length:=by
    have:¬(i:Int)<a.length:=by simpa using hge
    omega
   rw[←hF,zd7 hi]
   repeat'(first|refine zq0 ?_|exact zd0|(refine zaa ?_ ?_<;>intro hb)|(refine And.intro ?_ ?_;exact zI)|(refine And.intro ?_ ?_<;>intro hg)|exact zC|fail)
 ·rw[zfl hl]
  repeat'(first|refine zq hl ?_|exact zd hl|(refine zaa ?_ ?_<;>intro hb)|(refine And.intro ?_ ?_;exact zI)|(refine And.intro ?_ ?_<;>intro hg)|exact zC|fail)
set_option maxHeartbeats 1000000 in
theorem zm0 (a b:List Memo) (ha:a.length<2^30) (hb:b.length<2^30) (hla:∀x∈a,x.reply.held.length<2^30) (hlb2:∀x∈b,x.reply.held.length<2^30):CallOK Tryz.prog 50 [.f (al a.length (zav a)), .f (al b.length (zav b))] (fun r o=>r=[rb (zc6 ziG a b)]∧o=[]):=by
 refine zac zar mixed (T:=Ty) (n:=55) Tryz.func50 (c:=Tryz.f50.body.getD .skip) rfl Tryz.results50 Tryz.ntmps50 Tryz.call50 ?_
 simp only[Tryz.f50,Option.getD]
 cases hl:((a.length:Int) !=(b.length:Int))
 ·obtain⟨hle,hsr⟩:=zfm (eq:=ziG) hl
  rw[hsr]
  repeat'(first|refine zq hl ?_|exact zd hl|(refine zaa ?_ ?_<;>intro hb)|(refine And.intro ?_ ?_;exact zI)|(refine And.intro ?_ ?_<;>intro hg)|exact zC|fail)
  refine zao (τ:=Nat) (fun i=>⟨[al a.length (zav a),al b.length (zav b),dd,dd,dd,ai i,dd,dd,dd,dd,dd,dd,dd,dd,dd,dd,dd,dd,dd,dd,dd,dd,dd,dd,dd,dd,dd,dd,dd,dd,dd,dd,dd,dd,dd,dd,dd,dd,dd,dd,dd,dd,dd,dd,dd,dd,dd,dd,dd,dd,dd,dd,dd,dd,dd],[]⟩)
   (fun i=>i≤a.length) (fun i=>zfV ziG a b i) (fun i=>a.length - i) 0
   (Gh.canon [] [] [] zK rfl rfl) (Nat.zero_le _) ?_
  intro i hi0 hF K hK
  refine zw ?_
  refine zaa (fun hlt=> ?_) (fun hge=> ?_)
  ·have hi:i<a.length:=by simpa using hlt
   have hi2:i<b.length:=by omega
   have hat:=zbu hi
   have hat2:=zbu hi2
   have hw:=zan hi (by omega)
   have hlb:decide ((i:Int)<a.length)=true:=by simp;omega
   have hst:=zdv (eq:=ziG) hi hi2
   have hd1:(zav a).drop (i*6+1)=iD a[i].seq::(a[i].reply.enc++zav (a.drop (i+1))):=by rw[←List.drop_drop,hat];rfl
   have hd2:(zav b).drop (i*6+1)=iD b[i].seq::(b[i].reply.enc++zav (b.drop (i+1))):=by rw[←List.drop_drop,hat2];rfl
   have hsr:=zke a[i].reply b[i].reply (hla _ (List.getElem_mem hi)) (hlb2 _ (List.getElem_mem hi2))
   have hme:ziG a[i] b[i]=((a[i].client==b[i].client)&&(a[i].seq==b[i].seq)&&eqRe a[i].reply b[i].reply):=by unfold ziG eqRe;simp only[Bool.and_assoc]
   cases hq:ziG a[i] b[i]
   ·rw[hq]at hst
    have he:(((a[i].client !=b[i].client)||(a[i].seq !=b[i].seq))|| !eqRe a[i].reply b[i].reply)=true:=by rw[hme]at hq;revert hq;cases eqRe a[i].reply b[i].reply<;>cases h1:(a[i].client==b[i].client)<;>cases h2:(a[i].seq==b[i].seq)<;>simp[bne,h1,h2]
    rw[←hF,hst]
    repeat'(first|refine zq (I hat (I hat2 (I hlb (I he (I @Bool.not_true (I @Bool.not_false (I @Bool.and_self (I hd1 (I hd2 (I @zaj zca)))))))))) ?_|exact zd (I hat (I hat2 (I hlb (I he (I @Bool.not_true (I @Bool.not_false (I @Bool.and_self (I hd1 (I hd2 (I @zaj zca))))))))))|refine zc (hsr) ?_|refine zg (hsr) ?_|(refine zaa ?_ ?_<;>intro hb)|(refine And.intro ?_ ?_;exact zI)|(refine And.intro ?_ ?_<;>intro hg)|exact zC|fail)
   ·rw[hq,Bool.true_and]at hst
    have he:(((a[i].client !=b[i].client)||(a[i].seq !=b[i].seq))|| !eqRe a[i].reply b[i].reply)=false:=by rw[hme]at hq;revert hq;cases eqRe a[i].reply b[i].reply<;>cases h1:(a[i].client==b[i].client)<;>cases h2:(a[i].seq==b[i].seq)<;>simp[bne,h1,h2]
    repeat'(first|refine zq (I hat (I hat2 (I hlb (I he (I @Bool.not_true (I @Bool.not_false (I @Bool.and_self (I hd1 (I hd2 (I @zaj zca)))))))))) ?_|exact zd (I hat (I hat2 (I hlb (I he (I @Bool.not_true (I @Bool.not_false (I @Bool.and_self (I hd1 (I hd2 (I @zaj zca))))))))))|refine zc (hsr) ?_|refine zg (hsr) ?_|(refine zaa ?_ ?_<;>intro hb)|(refine And.intro ?_ ?_;exact zI)|(refine And.intro ?_ ?_<;>intro hg)|exact zC|fail)
    exact hK _ (i+1) (Gh.canon [] [] [] (zk hw) rfl rfl) hi hst.symm (by omega)
  ·have hi:i=a.length:=by
    have:¬(i:Int)<a.length:=by simpa using hge
    omega
   rw[←hF,zd7 hi]
   repeat'(first|refine zq0 ?_|exact zd0|(refine zaa ?_ ?_<;>intro hb)|(refine And.intro ?_ ?_;exact zI)|(refine And.intro ?_ ?_<;>intro hg)|exact zC|fail)
 ·rw[zfl hl]
  repeat'(first|refine zq hl ?_|exact zd hl|(refine zaa ?_ ?_<;>intro hb)|(refine And.intro ?_ ?_;exact zI)|(refine And.intro ?_ ?_<;>intro hg)|exact zC|fail)
theorem zl4 (a b:St) (ha:Small a) (hb:Small b):CallOK Tryz.prog 18 [.f (.agg a.lent), .f (.agg b.lent)] (fun r o=>r=[rb (ztC a b)]∧o=[]):=by
 refine zac zar mixed (T:=Ty) (n:=45) Tryz.func18 (c:=Tryz.f18.body.getD .skip) rfl Tryz.results18 Tryz.ntmps18 Tryz.call18 ?_
 simp only[Tryz.f18,Option.getD]
 have h1:=zo8 a.sess b.sess ha.sess hb.sess
 have h2:=zmZ a.locks b.locks ha.locks hb.locks (fun k hk=>(ha.line k hk).1) (fun k hk=>(hb.line k hk).1)
 have h3:=zm0 a.memos b.memos ha.memos hb.memos (fun k hk=>(ha.held k hk).1) (fun k hk=>(hb.held k hk).1)
 repeat'(first|refine zq0 ?_|exact zd0|refine zc (h1) ?_|refine zg (h1) ?_|refine zc (h2) ?_|refine zg (h2) ?_|refine zc (h3) ?_|refine zg (h3) ?_|(refine zaa ?_ ?_<;>intro hb)|(refine And.intro ?_ ?_;exact zI)|(refine And.intro ?_ ?_<;>intro hg)|exact zC|fail)
 rfl
theorem zfQ (l:List Int) (hl:l.length<2^62) (p:Int→Bool) (f:Nat) (caps:List C) (hc:lendAs [] (caps.map AV.one)=some (caps.map fun c=> .f (.one c))) (hc2:lendC.lendCs [] caps=some caps)
  (hp:∀x∈l,CallOK Tryz.prog f (.f (zrz x)::caps.map fun c=> .f (.one c)) (fun r o=>r=[rb (p x)]∧o=[])):
  CallOK Tryz.prog 107 [.f (al l.length (zat l)), .f (.one (.clos f caps))] (fun r o=>r=[rb (l.any p)]∧o=[]):=by
 refine zac zar mixed (T:=Ty) (n:=9) Tryz.func107 (c:=Tryz.f107.body.getD .skip) rfl Tryz.results107 Tryz.ntmps107 Tryz.call107 ?_
 simp only[Tryz.f107,Option.getD]
 repeat(first|with_reducible refine zab _ _ ?_|with_reducible refine And.imp_right (zab _ _) ?_|with_reducible refine And.imp_right (And.imp_right (zab _ _)) ?_|with_reducible refine And.imp_right (And.imp_right (And.imp_right (zab _ _))) ?_|rw[zak]|simp only[zB,hc2,Nat.reduceSub,Nat.reduceEqDiff,Nat.reduceAdd,Nat.reduceMul,Nat.reduceLeDiff,Nat.reduceLT,Nat.reduceBEq,reduceCtorEq])
 refine zaD (zi3 l hl p f caps hc hp) ?_
 refine zw ?_
 rw[zdB]
abbrev ztq:Req→AV:=fun x=> .agg (x.enc.map C.d)
theorem zoS (l:List Req) (hl:l.length<2^62) (p:Req→Bool) (f:Nat) (caps:List C) (hc:lendAs [] (caps.map AV.one)=some (caps.map fun c=> .f (.one c)))
  (hp:∀x∈l,CallOK Tryz.prog f (.f (ztq x)::caps.map fun c=> .f (.one c)) (fun r o=>r=[rb (p x)]∧o=[])):
  CallOK Tryz.prog 109 [.f (al l.length (zbO l)), .f (.one (.clos f caps))] (fun r o=>r=[ri (zcn p l 0)]∧o=[]):=by
 refine zac zar mixed (T:=Ty) (n:=19) Tryz.func109 (c:=Tryz.f109.body.getD .skip) rfl Tryz.results109 Tryz.ntmps109 Tryz.call109 ?_
 simp only[Tryz.f109,Option.getD]
 refine zw ?_
 refine zao (τ:=Nat) (fun i=>⟨[al l.length (zbO l), .one (.clos f caps),dd,dd,ai 0,dd,al l.length (zbO l),ai l.length,ai i,dd,dd,dd,dd,dd,dd,dd,dd,dd,dd],[]⟩) (fun i=>i≤l.length) (fun i=>zcn p (l.drop i) i) (fun i=>l.length - i) 0 (Gh.fgt ?_) (Nat.zero_le _) ?_
 ·simp only[zaM,zaN,za4,Int.natCast_zero]
 intro i hi0 hF K hK
 refine zw ?_
 rw[zcQ]
 refine⟨trivial,fun hlt=> ?_,fun hge=> ?_⟩
 ·have hi:i<l.length:=by simpa using hlt
  rw[List.drop_eq_getElem_cons hi,zcn]at hF
  have hat:=zdL hi
  simp only[List.cons_append,List.nil_append]at hat
  repeat(first|with_reducible refine zab _ _ ?_|with_reducible refine And.imp_right (zab _ _) ?_|with_reducible refine And.imp_right (And.imp_right (zab _ _)) ?_|with_reducible refine And.imp_right (And.imp_right (And.imp_right (zab _ _))) ?_|rw[zak]|simp only[zB,zaX,hat,hc,Nat.reduceSub,Nat.reduceEqDiff,Nat.reduceAdd,Nat.reduceMul,Nat.reduceLeDiff,Nat.reduceLT,Nat.reduceBEq,reduceCtorEq])
  refine⟨⟨Int.natCast_nonneg i,by omega⟩, ?_⟩
  refine zaD (hp _ (List.getElem_mem hi)) ?_
  refine zw ?_
  refine zaa (fun hb=> ?_) (fun hb=> ?_)
  ·rw[if_pos hb]at hF
   refine zw ?_
   rw[hF];rfl
  ·rw[if_neg (by simp[hb])]at hF
   refine zw ?_
   refine hK _ (i+1) (Gh.fgt ?_) hi (by simp only[List.drop_eq_getElem_cons hi,zcn];rw[if_neg (by simp[hb])];rfl) (by omega)
   have hw:IntKind.i64.wrap ((i:Int)+1)=((i+1:Nat):Int):=by rw[wrap64 (by omega) (by omega)];rfl
   simp only[hw,zaM,zaN,za4]
 ·have hi:i=l.length:=by
   have:¬(i:Int)<l.length:=by simpa using hge
   omega
  rw[hi,List.drop_length,zcn]at hF
  refine zw ?_
  rw[hF];rfl
theorem zj8 (l:List Req) (hl:l.length<2^62) (p:Req→Bool) (f:Nat) (caps:List C) (hc:lendAs [] (caps.map AV.one)=some (caps.map fun c=> .f (.one c))) (hc2:lendC.lendCs [] caps=some caps)
  (hp:∀x∈l,CallOK Tryz.prog f (.f (ztq x)::caps.map fun c=> .f (.one c)) (fun r o=>r=[rb (p x)]∧o=[])):
  CallOK Tryz.prog 67 [.f (al l.length (zbO l)), .f (.one (.clos f caps))] (fun r o=>r=[rb (l.any p)]∧o=[]):=by
 refine zac zar mixed (T:=Ty) (n:=9) Tryz.func67 (c:=Tryz.f67.body.getD .skip) rfl Tryz.results67 Tryz.ntmps67 Tryz.call67 ?_
 simp only[Tryz.f67,Option.getD]
 repeat(first|with_reducible refine zab _ _ ?_|with_reducible refine And.imp_right (zab _ _) ?_|with_reducible refine And.imp_right (And.imp_right (zab _ _)) ?_|with_reducible refine And.imp_right (And.imp_right (And.imp_right (zab _ _))) ?_|rw[zak]|simp only[zB,hc2,Nat.reduceSub,Nat.reduceEqDiff,Nat.reduceAdd,Nat.reduceMul,Nat.reduceLeDiff,Nat.reduceLT,Nat.reduceBEq,reduceCtorEq])
 refine zaD (zoS l hl p f caps hc hp) ?_
 refine zw ?_
 rw[zdB]
def bad (n:Int):Bool:=decide (n<0)||decide (n>zaT)
def inH (n:Int):Bool:=decide (n≥0)&&decide (n≤zaT)
theorem zsu (n:Int):(!bad n)=inH n:=by unfold bad inH;rw[Bool.eq_iff_iff];simp
theorem zhK (n:Int):CallOK Tryz.prog 108 [.f (ai n)] (fun r o=>r=[rb (bad n)]∧o=[]):=by
 refine zac zar mixed (T:=Ty) (n:=9) Tryz.func108 (c:=Tryz.f108.body.getD .skip) rfl Tryz.results108 Tryz.ntmps108 Tryz.call108 ?_
 simp only[Tryz.f108,Option.getD]
 repeat'(first|with_reducible refine zab _ _ ?_|rw[zak]|simp only[zB,Nat.reduceSub,Nat.reduceEqDiff,Nat.reduceAdd,Nat.reduceMul,Nat.reduceLeDiff,Nat.reduceLT,Nat.reduceBEq,reduceCtorEq]|refine zam ?_|refine zaa (fun hb=> ?_) (fun hb=> ?_)|(refine And.intro ?_ ?_;exact zI)|refine And.intro (fun hg=> ?_) (fun hg=> ?_)|exact zC|fail)
 rfl
theorem zhL (l:List Int) (hl:l.length<2^62):CallOK Tryz.prog 66 [.f (al l.length (zat l))] (fun r o=>r=[rb (!l.any bad)]∧o=[]):=by
 refine zac zar mixed (T:=Ty) (n:=6) Tryz.func66 (c:=Tryz.f66.body.getD .skip) rfl Tryz.results66 Tryz.ntmps66 Tryz.call66 ?_
 simp only[Tryz.f66,Option.getD]
 repeat'(first|with_reducible refine zab _ _ ?_|rw[zak]|simp only[zB,Nat.reduceSub,Nat.reduceEqDiff,Nat.reduceAdd,Nat.reduceMul,Nat.reduceLeDiff,Nat.reduceLT,Nat.reduceBEq,reduceCtorEq]|((first|((try refine zaz ?_);apply zaD)|(apply zaB;intro _));(solve|exact(zfQ l hl bad _ [] rfl rfl (fun x _=>zhK x))|(refine CallOK.le (zfQ l hl bad _ [] rfl rfl (fun x _=>zhK x)) ?_;exact zM)|fail);try case hn=>rfl)|refine zam ?_|refine zaa (fun hb=> ?_) (fun hb=> ?_)|(refine And.intro ?_ ?_;exact zI)|refine And.intro (fun hg=> ?_) (fun hg=> ?_)|exact zC|fail)
theorem zj9 (v least:Int):CallOK Tryz.prog 58 [.f (ai v), .f (ai least)] (fun r o=>r=[rb (decide (v≥least)&&decide (v≤zaT))]∧o=[]):=by
 refine zac zar mixed (T:=Ty) (n:=12) Tryz.func58 (c:=Tryz.f58.body.getD .skip) rfl Tryz.results58 Tryz.ntmps58 Tryz.call58 ?_
 simp only[Tryz.f58,Option.getD]
 repeat'(first|with_reducible refine zab _ _ ?_|rw[zak]|simp only[zB,Nat.reduceSub,Nat.reduceEqDiff,Nat.reduceAdd,Nat.reduceMul,Nat.reduceLeDiff,Nat.reduceLT,Nat.reduceBEq,reduceCtorEq]|refine zam ?_|refine zaa (fun hb=> ?_) (fun hb=> ?_)|(refine And.intro ?_ ?_;exact zI)|refine And.intro (fun hg=> ?_) (fun hg=> ?_)|exact zC|fail)
def Tip.may (t:Tip):Bool:=inH t.view&&inH t.slot
theorem zka (t:Tip):CallOK Tryz.prog 59 [.f (.agg [di t.view,di t.slot])] (fun r o=>r=[rb (Tip.may t)]∧o=[]):=by
 refine zac zar mixed (T:=Ty) (n:=21) Tryz.func59 (c:=Tryz.f59.body.getD .skip) rfl Tryz.results59 Tryz.ntmps59 Tryz.call59 ?_
 simp only[Tryz.f59,Option.getD]
 repeat'(first|with_reducible refine zab _ _ ?_|rw[zak]|simp only[zB,Nat.reduceSub,Nat.reduceEqDiff,Nat.reduceAdd,Nat.reduceMul,Nat.reduceLeDiff,Nat.reduceLT,Nat.reduceBEq,reduceCtorEq]|refine zam ?_|refine zaa (fun hb=> ?_) (fun hb=> ?_)|(refine And.intro ?_ ?_;exact zI)|refine And.intro (fun hg=> ?_) (fun hg=> ?_)|exact zC|fail)
 simp[Tip.may,inH,Bool.and_assoc]
theorem zqv (t:Tip) (b:Batch):CallOK Tryz.prog 36 [.f (.agg [di t.view,di t.slot]), .f (.agg b.lent)] (fun r o=>r=[rb (!b.fill&&(b.tip.view==t.view&&b.tip.slot==t.slot))]∧o=[]):=by
 refine zac zar mixed (T:=Ty) (n:=14) Tryz.func36 (c:=Tryz.f36.body.getD .skip) rfl Tryz.results36 Tryz.ntmps36 Tryz.call36 ?_
 simp only[Tryz.f36,Option.getD]
 repeat'(first|with_reducible refine zab _ _ ?_|rw[zak]|simp only[zB,Nat.reduceSub,Nat.reduceEqDiff,Nat.reduceAdd,Nat.reduceMul,Nat.reduceLeDiff,Nat.reduceLT,Nat.reduceBEq,reduceCtorEq]|refine zam ?_|refine zaa (fun hb=> ?_) (fun hb=> ?_)|(refine And.intro ?_ ?_;exact zI)|refine And.intro (fun hg=> ?_) (fun hg=> ?_)|exact zC|fail)
theorem zoT (t:Tip) (b:Batch):CallOK Tryz.prog 32 [.f (.agg [di t.view,di t.slot]), .f (.agg b.lent)] (fun r o=>r=[rb (!b.fill&&(b.tip.view==t.view&&b.tip.slot==t.slot))]∧o=[]):=by
 refine zac zar mixed (T:=Ty) (n:=14) Tryz.func32 (c:=Tryz.f32.body.getD .skip) rfl Tryz.results32 Tryz.ntmps32 Tryz.call32 ?_
 simp only[Tryz.f32,Option.getD]
 repeat'(first|with_reducible refine zab _ _ ?_|rw[zak]|simp only[zB,Nat.reduceSub,Nat.reduceEqDiff,Nat.reduceAdd,Nat.reduceMul,Nat.reduceLeDiff,Nat.reduceLT,Nat.reduceBEq,reduceCtorEq]|refine zam ?_|refine zaa (fun hb=> ?_) (fun hb=> ?_)|(refine And.intro ?_ ?_;exact zI)|refine And.intro (fun hg=> ?_) (fun hg=> ?_)|exact zC|fail)
theorem ziD (r q:Req):CallOK Tryz.prog 68 [.f (.agg (r.enc.map C.d)), .f (.one (.elt q.enc))] (fun x o=>x=[rb (r.client==q.client)]∧o=[]):=by
 refine zac zar mixed (T:=Ty) (n:=9) Tryz.func68 (c:=Tryz.f68.body.getD .skip) rfl Tryz.results68 Tryz.ntmps68 Tryz.call68 ?_
 simp only[Tryz.f68,Option.getD]
 repeat'(first|with_reducible refine zab _ _ ?_|rw[zak]|simp only[zB,Nat.reduceSub,Nat.reduceEqDiff,Nat.reduceAdd,Nat.reduceMul,Nat.reduceLeDiff,Nat.reduceLT,Nat.reduceBEq,reduceCtorEq]|refine zam ?_|refine zaa (fun hb=> ?_) (fun hb=> ?_)|(refine And.intro ?_ ?_;exact zI)|refine And.intro (fun hg=> ?_) (fun hg=> ?_)|exact zC|fail)
theorem zoU {l:List Req} {i:Nat} (hi:i≤l.length):(zbO l).take (i*5)=zbO (l.take i):=by
 have h:zbO l=zbO (l.take i)++zbO (l.drop i):=by rw[←List.flatMap_append,List.take_append_drop]
 rw[h,List.take_left' (by rw[zaX,List.length_take];congr 1;omega)]
def zbV (l:List Req):Nat→List Req→Bool
 |_,[]=>true
 |i,r::rest=>if(!Req.may r||(l.take i).any (fun o=>o.client==r.client))=true then false else zbV l (i+1) rest
def Batch.may (b:Batch):Bool:=
 if b.fill=true then b.view==0&&b.time==0&&(b.tip.view==0&&b.tip.slot==0)&&(b.reqs.length:Int)==0
 else if(!![b.view,b.time,b.tip.view,b.tip.slot].any bad||decide ((b.reqs.length:Int)>3))=true then false else zbV b.reqs 0 b.reqs
theorem zkY (b:Batch) (hok:b.ok):CallOK Tryz.prog 35 [.f (.agg b.lent)] (fun r o=>r=[rb (Batch.may b)]∧o=[]):=by
 have hlen:b.reqs.length<2^42:=hok.2.2.2.2.1
 have hreq:∀r∈b.reqs,r.ok:=hok.2.2.2.2.2
 refine zac zar mixed (T:=Ty) (n:=66) Tryz.func35 (c:=Tryz.f35.body.getD .skip) rfl Tryz.results35 Tryz.ntmps35 Tryz.call35 ?_
 simp only[Tryz.f35,Option.getD]
 repeat'(first|with_reducible refine zab _ _ ?_|rw[zak]|simp only[zB,Nat.reduceSub,Nat.reduceEqDiff,Nat.reduceAdd,Nat.reduceMul,Nat.reduceLeDiff,Nat.reduceLT,Nat.reduceBEq,reduceCtorEq]|((first|((try refine zaz ?_);apply zaD)|(apply zaB;intro _));(solve|exact(zhL [_,_,_,_] (by simp))|(refine CallOK.le (zhL [_,_,_,_] (by simp)) ?_;exact zM)|fail);try case hn=>rfl)|refine zam ?_|refine zaa (fun hb=> ?_) (fun hb=> ?_)|(refine And.intro ?_ ?_;exact zI)|refine And.intro (fun hg=> ?_) (fun hg=> ?_)|exact zC|fail)
 ·rw[Batch.may,if_pos (by assumption)]
 ·rw[Batch.may,if_neg (by simp_all),if_pos (by assumption)]
 rename_i hf
 have hm:Batch.may b=zbV b.reqs 0 b.reqs:=by rw[Batch.may,if_neg (by simp[hf]),if_neg (by rw[hb];simp)]
 rw[hm]
 refine zw ?_
 refine zao (τ:=Nat×Nat) (fun t=>⟨[dd, .one (.ptr ⟨1,0,0⟩ 0),ab false,dd,dd,dd,dd,dd,dd,dd,dd,dd,dd,dd,dd,dd,dd,dd,dd,dd,dd,dd,dd,dd,dd,dd,dd,dd,dd,dd,dd,dd,dd,dd,dd,dd,dd,dd,dd,dd,dd,dd,dd,dd,dd,dd,dd,al b.reqs.length (zbO b.reqs),ai b.reqs.length,ai t.1,dd,dd,dd,dd,dd,dd,dd,dd,dd,dd,dd,dd,dd,dd,dd,dd],
  [(1,{next:=7,l:=[some {e:=0,var:=true,fz:=false,sz:=0,cells:=[db b.fill,di b.view,di b.tip.view,di b.tip.slot,di b.time, .lent b.reqs.length (zbO b.reqs)]},none,none,none,none,none,none]}),(37,⟨1,[]⟩),(4,⟨t.2,[]⟩)]⟩)
  (fun t=>t.1≤b.reqs.length) (fun t=>zbV b.reqs t.1 (b.reqs.drop t.1)) (fun t=>b.reqs.length - t.1) (0,0) (Gh.keep [1] [4] ?_ rfl) (Nat.zero_le _) ?_
 ·simp only[zaM,zaN,za4,Int.natCast_zero]
 intro⟨i,e⟩ hi0 hF K hK
 simp only at hi0 hF hK⊢
 refine zw ?_
 rw[zcQ]
 refine⟨trivial,fun hlt=> ?_,fun hge=> ?_⟩
 ·have hi:i<b.reqs.length:=by simpa using hlt
  rw[List.drop_eq_getElem_cons hi,zbV]at hF
  have hat:=zdL hi
  simp only[List.cons_append,List.nil_append]at hat
  have hro:=hreq _ (List.getElem_mem hi)
  have hlt':(b.reqs.take i).length=i:=by rw[List.length_take];omega
  have hc:=zj8 (b.reqs.take i) (by omega) (fun o=>o.client==b.reqs[i].client) 68 [.elt b.reqs[i].enc] rfl rfl (fun x _=>ziD x _)
  rw[hlt',←zoU hi0]at hc
  repeat'(first|with_reducible refine zab _ _ ?_|rw[zak]|simp only[zB,zaX,hat,Int.toNat_zero,Int.toNat_natCast,Nat.sub_zero,Int.natCast_zero,Nat.reduceSub,Nat.reduceEqDiff,Nat.reduceAdd,Nat.reduceMul,Nat.reduceLeDiff,Nat.reduceLT,Nat.reduceBEq,reduceCtorEq]|((first|((try refine zaz ?_);apply zaD)|(apply zaB;intro _));(solve|exact(zgO _ hro)|exact(hc)|(refine CallOK.le (zgO _ hro) ?_;exact zM)|(refine CallOK.le (hc) ?_;exact zM)|fail);try case hn=>rfl)|refine zam ?_|refine zaa (fun hb=> ?_) (fun hb=> ?_)|(refine And.intro ?_ ?_;exact zI)|refine And.intro (fun hg=> ?_) (fun hg=> ?_)|exact zC|fail)
  ·rw[if_pos hb,List.drop_zero]at hF
   rw[←hF]
  ·rw[if_neg (by rw[hb];simp)]at hF
   refine hK _ (i+1,_) (Gh.keep [1] [] ?_ rfl) hi (by simp only[List.drop_eq_getElem_cons hi,zbV];rw[if_neg (by rw[hb];simp)]) (by simp only;omega)
   simp only[zan hi (by omega),zaM,zaN,za4]
 ·have hi:i=b.reqs.length:=by
   have:¬(i:Int)<b.reqs.length:=by simpa using hge
   omega
  rw[hi,List.drop_length,List.drop_zero,zbV]at hF
  refine zw ?_
  rw[←hF]
theorem zoV (l:List Req) (hl:l.length<2^42) (hreq:∀r∈l,r.ok):CallOK Tryz.prog 60 [.f (al l.length (zbO l))] (fun r o=>r=[rb (if decide ((l.length:Int)>3)=true then false else zbV l 0 l)]∧o=[]):=by
 refine zac zar mixed (T:=Ty) (n:=36) Tryz.func60 (c:=Tryz.f60.body.getD .skip) rfl Tryz.results60 Tryz.ntmps60 Tryz.call60 ?_
 simp only[Tryz.f60,Option.getD]
 refine zw ?_
 refine zaa (fun hb=> ?_) (fun hb=> ?_)
 ·refine zw ?_
  rw[if_pos hb]
 rw[if_neg (by rw[hb];simp)]
 refine zw ?_
 refine zao (τ:=Nat) (fun i=>⟨[al l.length (zbO l),dd,ab false,ai i,dd,dd,dd,dd,dd,dd,dd,dd,dd,dd,dd,dd,dd,dd,dd,dd,dd,dd,dd,dd,dd,dd,dd,dd,dd,dd,dd,dd,dd,dd,dd,dd],[]⟩)
  (fun i=>i≤l.length) (fun i=>zbV l i (l.drop i)) (fun i=>l.length - i) 0 (Gh.fgt ?_) (Nat.zero_le _) ?_
 ·simp only[zaM,zaN,za4,Int.natCast_zero]
 intro i hi0 hF K hK
 refine zw ?_
 refine zaa (fun hlt=> ?_) (fun hge=> ?_)
 ·have hi:i<l.length:=by simpa using hlt
  rw[List.drop_eq_getElem_cons hi,zbV]at hF
  have hat:=zdL hi
  simp only[List.cons_append,List.nil_append]at hat
  have hro:=hreq _ (List.getElem_mem hi)
  repeat'(first|with_reducible refine zab _ _ ?_|rw[zak]|simp only[zB,zaX,hat,Nat.reduceSub,Nat.reduceEqDiff,Nat.reduceAdd,Nat.reduceMul,Nat.reduceLeDiff,Nat.reduceLT,Nat.reduceBEq,reduceCtorEq]|((first|((try refine zaz ?_);apply zaD)|(apply zaB;intro _));(solve|exact(zfF _ hro)|(refine CallOK.le (zfF _ hro) ?_;exact zM)|fail);try case hn=>rfl)|refine zam ?_|refine zaa (fun hb=> ?_) (fun hb=> ?_)|(refine And.intro ?_ ?_;exact zI)|refine And.intro (fun hg=> ?_) (fun hg=> ?_)|exact zC|fail)
  ·rw[if_pos (by rw[hb];rfl),List.drop_zero]at hF
   rw[←hF]
  rename_i hm
  have hm:Req.may l[i]=true:=by simpa using hb
  refine zw ?_
  refine zao (τ:=Nat) (fun k=>⟨[al l.length (zbO l),dd,ab false,ai i,ai k,dd,dd,dd,dd,dd,dd,dd,dd,dd,dd,dd,dd,dd,dd,dd,dd,dd,dd,dd,dd,dd,dd,dd,dd,dd,dd,dd,dd,dd,dd,dd],[]⟩)
   (fun k=>k≤i) (fun k=>((l.take i).drop k).any (fun o=>o.client==l[i].client)) (fun k=>i - k) 0 (Gh.fgt ?_) (Nat.zero_le _) ?_
  ·simp only[zaM,zaN,za4,Int.natCast_zero]
  intro k hk0 hF2 K2 hK2
  refine zw ?_
  refine zaa (fun hlt2=> ?_) (fun hge2=> ?_)
  ·have hk:k<i:=by simpa using hlt2
   have hkl:k<l.length:=by omega
   have hat2:=zdL hkl
   simp only[List.cons_append,List.nil_append]at hat2
   have hd:(l.take i).drop k=l[k]::(l.take i).drop (k+1):=by
    rw[List.drop_eq_getElem_cons (by rw[List.length_take];omega)]
    congr 1
    rw[List.getElem_take]
   rw[hd,List.any_cons,List.drop_zero]at hF2
   repeat'(first|with_reducible refine zab _ _ ?_|rw[zak]|simp only[zB,zaX,hat,hat2,Nat.reduceSub,Nat.reduceEqDiff,Nat.reduceAdd,Nat.reduceMul,Nat.reduceLeDiff,Nat.reduceLT,Nat.reduceBEq,reduceCtorEq]|refine zam ?_|refine zaa (fun hb=> ?_) (fun hb=> ?_)|(refine And.intro ?_ ?_;exact zI)|refine And.intro (fun hg=> ?_) (fun hg=> ?_)|exact zC|fail)
   ·rw[hb,Bool.true_or]at hF2
    rw[if_pos (by rw[←hF2,Bool.or_true]),List.drop_zero]at hF
    rw[←hF]
   ·rw[hb,Bool.false_or]at hF2
    refine hK2 _ (k+1) (Gh.fgt ?_) hk (by rw[hd,List.any_cons,hb,Bool.false_or]) (by omega)
    simp only[zan hk (by omega),zaM,zaN,za4]
  ·have hk:k=i:=by
    have:¬(k:Int)<i:=by simpa using hge2
    omega
   rw[hk,List.drop_of_length_le (by rw[List.length_take];omega),List.any_nil,List.drop_zero]at hF2
   rw[if_neg (by rw[←hF2,hm];simp)]at hF
   refine zw ?_
   refine hK _ (i+1) (Gh.fgt ?_) hi (by simp only[List.drop_eq_getElem_cons hi,zbV];rw[if_neg (by rw[←hF2,hm];simp)]) (by omega)
   simp only[zan hi (by omega),zaM,zaN,za4]
 ·have hi:i=l.length:=by
   have:¬(i:Int)<l.length:=by simpa using hge
   omega
  rw[hi,List.drop_length,List.drop_zero,zbV]at hF
  refine zw ?_
  rw[←hF]
theorem zkb (b:Batch) (hok:b.ok):CallOK Tryz.prog 31 [.f (.agg b.lent)] (fun r o=>r=[rb (Batch.may b)]∧o=[]):=by
 refine zac zar mixed (T:=Ty) (n:=43) Tryz.func31 (c:=Tryz.f31.body.getD .skip) rfl Tryz.results31 Tryz.ntmps31 Tryz.call31 ?_
 simp only[Tryz.f31,Option.getD]
 repeat'(first|with_reducible refine zab _ _ ?_|rw[zak]|simp only[zB,Nat.reduceSub,Nat.reduceEqDiff,Nat.reduceAdd,Nat.reduceMul,Nat.reduceLeDiff,Nat.reduceLT,Nat.reduceBEq,reduceCtorEq]|((first|((try refine zaz ?_);apply zaD)|(apply zaB;intro _));(solve|exact(zj9 _ _)|exact(zka b.tip)|exact(zoV b.reqs hok.2.2.2.2.1 hok.2.2.2.2.2)|(refine CallOK.le (zj9 _ _) ?_;exact zM)|(refine CallOK.le (zka b.tip) ?_;exact zM)|(refine CallOK.le (zoV b.reqs hok.2.2.2.2.1 hok.2.2.2.2.2) ?_;exact zM)|fail);try case hn=>rfl)|refine zam ?_|refine zaa (fun hb=> ?_) (fun hb=> ?_)|(refine And.intro ?_ ?_;exact zI)|refine And.intro (fun hg=> ?_) (fun hg=> ?_)|exact zC|fail)
 ·rw[Batch.may,if_pos (by assumption)]
  refine congrArg (fun b=>[rb b]) ?_
  ac_rfl
 ·refine congrArg (fun b=>[rb b]) ?_
  have e:(![b.view,b.time,b.tip.view,b.tip.slot].any bad)=(inH b.view&&inH b.time&&Tip.may b.tip):=by
   simp[Tip.may,←zsu,Bool.and_assoc]
  rw[Batch.may,if_neg (show¬b.fill=true by rw[hb];simp),e]
  show(inH b.view&&inH b.time&&Tip.may b.tip&&_)=_
  generalize (inH b.view&&inH b.time&&Tip.may b.tip)=q
  generalize decide ((b.reqs.length:Int)>3)=d
  cases q<;>cases d<;>rfl
def zkh (b:Batch):Bool:=if decide ((b.reqs.length:Int)>20)=true then true else b.reqs.any fun r=>decide ((r.name.size:Int)>300)
theorem zpe (b:Batch) (hl:b.reqs.length<2^42):CallOK Tryz.prog 21 [.f (.agg b.lent)] (fun r o=>r=[rb (zkh b)]∧o=[]):=by
 refine zac zar mixed (T:=Ty) (n:=24) Tryz.func21 (c:=Tryz.f21.body.getD .skip) rfl Tryz.results21 Tryz.ntmps21 Tryz.call21 ?_
 simp only[Tryz.f21,Option.getD]
 repeat'(first|with_reducible refine zab _ _ ?_|rw[zak]|simp only[zB,Nat.reduceSub,Nat.reduceEqDiff,Nat.reduceAdd,Nat.reduceMul,Nat.reduceLeDiff,Nat.reduceLT,Nat.reduceBEq,reduceCtorEq]|refine zam ?_|refine zaa (fun hb=> ?_) (fun hb=> ?_)|(refine And.intro ?_ ?_;exact zI)|refine And.intro (fun hg=> ?_) (fun hg=> ?_)|exact zC|fail)
 ·rw[zkh,if_pos hb]
 have hg:zkh b=b.reqs.any fun r=>decide ((r.name.size:Int)>300):=by rw[zkh,if_neg (by rw[hb];simp)]
 rw[hg]
 refine zao (τ:=Nat) (fun t=>⟨[dd, .one (.ptr ⟨1,0,0⟩ 0),ab false,ai t,dd,dd,dd,dd,dd,dd,dd,dd,dd,dd,dd,dd,dd,dd,dd,dd,dd,dd,dd,dd],[(1,{next:=7,l:=[some {e:=0,var:=true,fz:=false,sz:=0,cells:=[db b.fill,di b.view,di b.tip.view,di b.tip.slot,di b.time, .lent b.reqs.length (zbO b.reqs)]},none,none,none,none,none,none]})]⟩)
  (fun t=>t≤b.reqs.length) (fun t=>(b.reqs.drop t).any fun r=>decide ((r.name.size:Int)>300)) (fun t=>b.reqs.length - t) 0 (Gh.keep [1] [] ?_ rfl) (Nat.zero_le _) ?_
 ·simp only[zaM,zaN,za4,Int.natCast_zero]
 intro i hi0 hF K hK
 simp only[List.drop_zero]at hF⊢
 rw[←hF]
 refine zw ?_
 refine zaa (fun hlt=> ?_) (fun hge=> ?_)
 ·have hi:i<b.reqs.length:=by simpa using hlt
  have hat:=zdL hi
  simp only[List.cons_append,List.nil_append]at hat
  have hd:(b.reqs.drop i).any (fun r=>decide ((r.name.size:Int)>300))=(decide ((b.reqs[i].name.size:Int)>300)||(b.reqs.drop (i+1)).any fun r=>decide ((r.name.size:Int)>300)):=by rw[List.drop_eq_getElem_cons hi,List.any_cons]
  repeat'(first|with_reducible refine zab _ _ ?_|rw[zak]|simp only[zB,zaX,hat,Nat.reduceSub,Nat.reduceEqDiff,Nat.reduceAdd,Nat.reduceMul,Nat.reduceLeDiff,Nat.reduceLT,Nat.reduceBEq,reduceCtorEq]|refine zam ?_|refine zaa (fun hb=> ?_) (fun hb=> ?_)|(refine And.intro ?_ ?_;exact zI)|refine And.intro (fun hg=> ?_) (fun hg=> ?_)|exact zC|fail)
  ·rw[hd,hb,Bool.true_or]
  ·refine hK _ (i+1) (Gh.keep [1] [] ?_ rfl) hi (by rw[hd,hb,Bool.false_or]) (by omega)
   simp only[zan hi (by omega),zaM,zaN,za4]
 ·have hi:i=b.reqs.length:=by
   have:¬(i:Int)<b.reqs.length:=by simpa using hge
   omega
  rw[hi,List.drop_length,List.any_nil]
  repeat'(first|refine zq0 ?_|exact zd0|(refine zaa ?_ ?_<;>intro hb)|(refine And.intro ?_ ?_;exact zI)|(refine And.intro ?_ ?_<;>intro hg)|exact zC|fail)
def SqB (s:St) (i:Nat):Prop:=∀m∈s.memos,m.seq≤6+i
structure XS where
 lease:Int
 done:Int
 view:Int
 slot:Int
 st:St
def zfn:St→List Req→List Memo→St×List Memo
 |s,[],l=>(s,l)
 |s,r::rs,l=>zfn (za6 s r).1 rs (if zbc s.memos r.client r.seq= -1 then l else l++[⟨r.client,r.seq,(za6 s r).2.1⟩])
def zfI (x:XS) (b:Batch):Bool:= !b.fill&&(b.tip.view==x.view&&b.tip.slot==x.slot)
def ziH (x:XS) (b:Batch):St×List Memo:=zfn (zbk x.st b.time x.lease) b.reqs []
def doP (x:XS) (b:Batch):XS×List Memo×Bool:=
 if Batch.may b=false then(x,[],false)else
 if zfI x b=false then({x with done:=x.done+1},[],false)else
 (⟨x.lease,x.done+1,b.view,x.done+1,(ziH x b).1⟩,(ziH x b).2,true)
theorem zkn {l:List Req}:∀{i:Nat},i≤l.length→(zbV l i (l.drop i)=true↔∀j (hj:j<l.length),i≤j→Req.may l[j]=true∧∀k (hk:k<j),l[k].client≠l[j].client):=by
 intro i hi
 obtain⟨n,hn⟩:∃n,n=l.length - i:=⟨_,rfl⟩
 induction n generalizing i with
 |zero=>
  have:i=l.length:=by omega
  rw[this,List.drop_length,zbV]
  simp only[true_iff]
  intro j hj hij;omega
 |succ n ih=>
  have hil:i<l.length:=by omega
  rw[List.drop_eq_getElem_cons hil,zbV]
  have ih:=ih (i:=i+1) (by omega) (by omega)
  have hany:(l.take i).any (fun o=>o.client==l[i].client)=false↔∀k (hk:k<i),l[k].client≠l[i].client:=by
   rw[List.any_eq_false]
   constructor
   ·intro h k hk
    have:=h (l[k]) (by rw[List.mem_take_iff_getElem];exact⟨k,by omega,rfl⟩)
    simpa using this
   ·intro h o ho
    obtain⟨k,hk,rfl⟩:=List.mem_take_iff_getElem.1 ho
    simpa using h k (by omega)
  constructor
  ·intro h
   split at h
   ·cases h
   ·rename_i hc
    have hc:(!Req.may l[i]||(l.take i).any (fun o=>o.client==l[i].client))=false:=by simpa using hc
    rw[Bool.or_eq_false_iff]at hc
    intro j hj hij
    by_cases hji:j=i
    ·subst hji
     exact⟨by simpa using hc.1,hany.1 hc.2⟩
    ·exact ih.1 h j hj (by omega)
  ·intro h
   obtain⟨h1,h2⟩:=h i hil (Nat.le_refl _)
   rw[if_neg (by rw[h1,hany.2 h2];simp)]
   exact ih.2 fun j hj hij=>h j hj (by omega)
theorem zko {l:List Req} (h:zbV l 0 l=true):(∀r∈l,Req.may r=true)∧l.Pairwise fun a b=>a.client≠b.client:=by
 have h:=(zkn (l:=l) (i:=0) (Nat.zero_le _)).1 (by rw[List.drop_zero];exact h)
 refine⟨fun r hr=> ?_,List.pairwise_iff_getElem.2 fun i j hi hj hij=>(h j hj (Nat.zero_le _)).2 i hij⟩
 obtain⟨j,hj,rfl⟩:=List.getElem_of_mem hr
 exact(h j hj (Nat.zero_le _)).1
theorem zey {b:Batch} (h:Batch.may b=true) (hf:b.fill=false):(0≤b.view∧b.view≤zaT)∧(0≤b.time∧b.time≤zaT)∧(0≤b.tip.view∧b.tip.view≤zaT)∧(0≤b.tip.slot∧b.tip.slot≤zaT)∧b.reqs.length≤3∧
  (∀r∈b.reqs,Req.may r=true)∧b.reqs.Pairwise fun a b=>a.client≠b.client:=by
 unfold Batch.may at h
 rw[if_neg (by rw[hf];simp)]at h
 split at h
 ·cases h
 ·rename_i hc
  have hc:(!![b.view,b.time,b.tip.view,b.tip.slot].any bad||decide ((b.reqs.length:Int)>3))=false:=by simpa using hc
  rw[Bool.or_eq_false_iff]at hc
  obtain⟨c1,c2⟩:=hc
  have hb:∀n:Int,bad n=false→0≤n∧n≤zaT:=fun n hn=>by unfold bad at hn;simp at hn;omega
  have c1:[b.view,b.time,b.tip.view,b.tip.slot].any bad=false:=by simpa using c1
  simp only[List.any_cons,List.any_nil,Bool.or_false,Bool.or_eq_false_iff]at c1
  obtain⟨q1,q2,q3,q4⟩:=c1
  obtain⟨g1,g2⟩:=zko h
  exact⟨hb _ q1,hb _ q2,hb _ q3,hb _ q4,by simp at c2;omega,g1,g2⟩
theorem ziL:∀{rs:List Req} {s:St} {l:List Memo},RightS s→s.num+rs.length≤zaT→s.token+4*rs.length≤zaT→
  RightS (zfn s rs l).1∧(s.num≤(zfn s rs l).1.num∧(zfn s rs l).1.num≤s.num+rs.length)∧(s.token≤(zfn s rs l).1.token∧(zfn s rs l).1.token≤s.token+4*rs.length)∧(zfn s rs l).1.time=s.time∧(zfn s rs l).2.length≤l.length+rs.length
 |[],s,l,h,h1,h2=>by simp only[zfn,List.length_nil];exact⟨h,by omega,by omega,trivial,by omega⟩
 |r::rs,s,l,h,h1,h2=>by
  rw[List.length_cons]at h1 h2⊢
  obtain⟨d1,d2,d3,d4,d5⟩:=zdw h r (by omega) (by omega)
  obtain⟨e1,e2,e3,e4,e5⟩:=ziL (rs:=rs) (s:=(za6 s r).1) (l:=if zbc s.memos r.client r.seq= -1 then l else l++[⟨r.client,r.seq,(za6 s r).2.1⟩]) d1 (by omega) (by omega)
  rw[zfn]
  refine⟨e1,by omega,by omega,e4.trans d4,Nat.le_trans e5 ?_⟩
  split
  ·omega
  ·simp only[List.length_append,List.length_singleton];omega
theorem ziM {x:XS} {b:Batch} (h:RightS x.st) (hN:x.st.num+3≤zaT) (hT:x.st.token+16≤zaT) (hl:b.reqs.length≤3):
  RightS (ziH x b).1∧(ziH x b).1.num≤x.st.num+3∧(ziH x b).1.token≤x.st.token+16∧(ziH x b).1.time=zb8 x.st b.time∧(ziH x b).2.length≤b.reqs.length:=by
 obtain⟨r1,r2,r3,r4,r5⟩:=zcJ h b.time x.lease (by omega)
 obtain⟨e1,e2,e3,e4,e5⟩:=ziL (rs:=b.reqs) (l:=[]) r1 (by omega) (by omega)
 refine⟨e1, ?_, ?_,e4,by simpa[ziH]using e5⟩
 ·show(ziH x b).1.num≤_
  have:=e2.2;unfold ziH;omega
 ·have:=e3.2;unfold ziH;omega
end Go.Proofs.YtngleemijkaeoaaGreat
