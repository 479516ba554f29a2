import Derived.Test.YtiegkabcgokhkaaGreatOA
namespace Go.Proofs.YtiegkabcgokhkaaGreat
open Go.Pk
set_option maxRecDepth 100000
set_option linter.unusedSimpArgs false
set_option linter.unusedVariables false
def cmdB (k n:Int) (s:ByteArray):List D:=bytesE [k]++(bytesE (numB n)++textB s)
theorem za8 (n:Int):(bytesE (numB n)).length=8:=rfl
theorem zij (k n:Int) (s:ByteArray):(cmdB k n s).length=10+s.size:=by
 unfold cmdB
 rw[List.length_append,List.length_append,za8,zbM];simp;omega
theorem zcU {k n:Int} {s:ByteArray} (h:mayP k n s=true):1≤k∧k≤6∧0≤n∧n≤2305843009213693952∧s.size≤12:=by
 unfold mayP at h
 split at h
 ·cases h
 ·rename_i h1
  split at h
  ·cases h
  ·rename_i h2
   have hk:1≤k∧k≤6:=by simp at h1;omega
   have hn:0≤n∧n≤2305843009213693952:=by
    split at h
    ·simp at h;omega
    ·simp at h;omega
   refine⟨hk.1,hk.2,hn.1,hn.2, ?_⟩
   cases hc:(k==3||k==4||k==5)
   ·simp only[hc,Bool.false_and,Bool.false_or,Bool.not_false,Bool.true_and]at h2
    have:s.toList=(⟨#[]⟩:ByteArray).toList:=by simpa only[Bool.not_eq_true,Bool.not_eq_false',beq_iff_eq]using h2
    have:s.size=0:=by
     have:=congrArg List.length this
     rw[zd2,zd2,Array.length_toList]at this
     exact this
    omega
   ·simp only[hc,Bool.true_and,Bool.not_true,Bool.false_and,Bool.or_false]at h2
    have hn:nameP s=true:=by simpa using h2
    unfold nameP at hn
    simp only[Bool.and_eq_true,decide_eq_true_eq]at hn
    omega
theorem zki (k n:Int) (s:ByteArray) (h:mayP k n s=true):CallOK Tryz.prog 104 [.f (.agg [di k,di n,dS s])] (fun r o=>r=[.one (.own 1 (cmdB k n s).length (cmdB k n s) false),ri 0]∧o=[]):=by
 refine zal zat mixed (T:=Ty) (n:=36) Tryz.func104 (c:=Tryz.f104.body.getD .skip) rfl Tryz.results104 Tryz.ntmps104 Tryz.call104 ?_
 simp only[Tryz.f104,Option.getD]
 obtain⟨f1,f2,f3,f4,f5⟩:=zcU h
 have hmy:=zme k n s (by omega)
 rw[h]at hmy
 have hpb:=zfv k (by omega)
 have hpn:=zcB n (by omega)
 have hpt:=zfw s (by omega)
 have hcc:CallOK Tryz.prog 105 [.f (al 3 [.sl 1 (bytesE [k]), .sl 8 (bytesE (numB n)), .sl (1+s.size) (textB s)])] (fun r o=>r=[.one (.own 1 (cmdB k n s).length (cmdB k n s) false)]∧o=[]):=by
  have hc:=zdF [bytesE [k],bytesE (numB n),textB s] (by simp) (fun l hl=>by
   simp only[List.mem_cons,List.not_mem_nil,or_false]at hl
   rcases hl with rfl|rfl|rfl
   ·simp
   ·rw[za8];decide
   ·rw[zbM];omega)
  rw[show [bytesE [k],bytesE (numB n),textB s].flatten=cmdB k n s from by simp[cmdB]]at hc
  rw[←zbM s]
  exact hc
 have t1:(bytesE (numB n)).take 8=bytesE (numB n):=List.take_of_length_le (by rw[za8];decide)
 have t2:(textB s).take (1+s.size)=textB s:=List.take_of_length_le (by rw[zbM];exact Nat.le_refl _)
 repeat'(first|(with_reducible first|refine zaa _ _ ?_|refine zad ?_|refine zae ?_)|rw[zaf]|simp only[t1,t2,zY,Int.reduceEq,Int.reduceBEq,Int.reduceBNe,Nat.reduceSub,Nat.reduceEqDiff,Nat.reduceAdd,Nat.reduceMul,Nat.reduceLeDiff,Nat.reduceLT,Nat.reduceBEq,reduceCtorEq]|((first|((try refine zah ?_);apply zak)|(apply zai;intro _));(solve|exact(hmy)|exact(hpb)|exact(hpn)|exact(hpt)|exact(hcc)|(refine CallOK.le (hmy) ?_;exact zM)|(refine CallOK.le (hpb) ?_;exact zM)|(refine CallOK.le (hpn) ?_;exact zM)|(refine CallOK.le (hpt) ?_;exact zM)|(refine CallOK.le (hcc) ?_;exact zM)|fail);try case hn=>rfl)|refine zab ?_|refine zac (fun hb=> ?_) (fun hb=> ?_)|(refine And.intro ?_ ?_;exact zI)|refine And.intro (fun hg=> ?_) (fun hg=> ?_)|exact zC|fail)
def reqB (r:Req):List D:=bytesE [r.client]++(bytesE (numB r.seq)++cmdB r.kind r.session r.name)
theorem zkj (r:Req) (hr:r.ok) (h:Req.may r=true):CallOK Tryz.prog 69 [.f (.agg (r.enc.map C.d))] (fun x o=>x=[.one (.own 1 (reqB r).length (reqB r) false),ri 0]∧o=[]):=by
 refine zal zat mixed (T:=Ty) (n:=36) Tryz.func69 (c:=Tryz.f69.body.getD .skip) rfl Tryz.results69 Tryz.ntmps69 Tryz.call69 ?_
 simp only[Tryz.f69,Option.getD]
 have hmy:=zg1 r hr
 rw[h]at hmy
 have hf:0≤r.client∧r.client<8∧1≤r.seq∧r.seq≤2305843009213693952∧mayP r.kind r.session r.name=true:=by
  unfold Req.may at h
  have hH:High=2305843009213693952:=rfl
  simp only[Bool.and_eq_true,decide_eq_true_eq]at h
  exact⟨h.1.1.1.1,h.1.1.1.2,h.1.1.2,by omega,h.2⟩
 obtain⟨e1,e2,e3,e4,e5⟩:=hf
 obtain⟨f1,f2,f3,f4,f5⟩:=zcU e5
 have hcl:=zij r.kind r.session r.name
 have hpb:=zfv r.client (by omega)
 have hpn:=zcB r.seq (by omega)
 have hpt:=zki r.kind r.session r.name e5
 have hcc:CallOK Tryz.prog 105 [.f (al 3 [.sl 1 (bytesE [r.client]), .sl 8 (bytesE (numB r.seq)), .sl (cmdB r.kind r.session r.name).length (cmdB r.kind r.session r.name)])] (fun x o=>x=[.one (.own 1 (reqB r).length (reqB r) false)]∧o=[]):=by
  have hc:=zdF [bytesE [r.client],bytesE (numB r.seq),cmdB r.kind r.session r.name] (by simp) (fun l hl=>by
   simp only[List.mem_cons,List.not_mem_nil,or_false]at hl
   rcases hl with rfl|rfl|rfl
   ·simp
   ·rw[za8];decide
   ·omega)
  rw[show [bytesE [r.client],bytesE (numB r.seq),cmdB r.kind r.session r.name].flatten=reqB r from by simp[reqB]]at hc
  exact hc
 have t1:(bytesE (numB r.seq)).take 8=bytesE (numB r.seq):=List.take_of_length_le (by rw[za8];decide)
 have t2:(cmdB r.kind r.session r.name).take (cmdB r.kind r.session r.name).length=cmdB r.kind r.session r.name:=List.take_length
 repeat'(first|(with_reducible first|refine zaa _ _ ?_|refine zad ?_|refine zae ?_)|rw[zaf]|simp only[t1,t2,zY,Int.reduceEq,Int.reduceBEq,Int.reduceBNe,Nat.reduceSub,Nat.reduceEqDiff,Nat.reduceAdd,Nat.reduceMul,Nat.reduceLeDiff,Nat.reduceLT,Nat.reduceBEq,reduceCtorEq]|((first|((try refine zah ?_);apply zak)|(apply zai;intro _));(solve|exact(hmy)|exact(hpb)|exact(hpn)|exact(hpt)|exact(hcc)|(refine CallOK.le (hmy) ?_;exact zM)|(refine CallOK.le (hpb) ?_;exact zM)|(refine CallOK.le (hpn) ?_;exact zM)|(refine CallOK.le (hpt) ?_;exact zM)|(refine CallOK.le (hcc) ?_;exact zM)|fail);try case hn=>rfl)|refine zab ?_|refine zac (fun hb=> ?_) (fun hb=> ?_)|(refine And.intro ?_ ?_;exact zI)|refine And.intro (fun hg=> ?_) (fun hg=> ?_)|exact zC|fail)
end Go.Proofs.YtiegkabcgokhkaaGreat
