import Derived.Test.YtliimajkpggbhaaGreatK9
import Derived.Test.YtliimajkpggbhaaGreatVA
namespace Go.Proofs.YtliimajkpggbhaaGreat
open Go.Pk Tryz
set_option maxRecDepth 100000
set_option linter.unusedSimpArgs false
set_option linter.unusedVariables false
structure RightS (s:St):Prop where
 time:0≤s.time∧s.time≤zcT
 num:0≤s.num∧s.num≤zcT
 token:0≤s.token∧s.token≤zcT
 ss:SS s.sess
 sok:∀x∈s.sess,zfA x=true∧x.num≤s.num
 snd:s.sess.Pairwise fun a b=>a.num≠b.num
 sl:s.sess.length≤5
 ls:SL s.locks
 lok:∀k∈s.locks,zrt k=true∧k.token≤s.token∧lineB k.line=true∧hasI k.line k.holder=false
 lnd:s.locks.Pairwise fun a b=>a.token≠b.token
 ll:s.locks.length≤4
 ms:SM s.memos
 mok:∀m∈s.memos,answerB m=true
 seat:∀k∈s.locks,(zbL s.sess k.holder).isSome=true∧∀c∈k.line,(zbL s.sess c).isSome=true
theorem zdN {α:Type} {r:α→α→Prop} (ht:∀a b c,r a b→r b c→r a c):∀{l:List α},(∀j (hj:j<l.length),0<j→r (l[j - 1]'(by omega)) l[j])→l.Pairwise r
 |[],_=>List.Pairwise.nil
 |[x],_=>by simp
 |x::y::l,h=>by
  have h1:r x y:=h 1 (by simp) (by decide)
  have ih:(y::l).Pairwise r:=zdN ht fun j hj h0=>by
   have:=h (j+1) (by simpa using hj) (by omega)
   obtain⟨k,rfl⟩:∃k,j=k+1:=⟨j - 1,by omega⟩
   simpa using this
  refine List.pairwise_cons.2 ⟨fun z hz=> ?_,ih⟩
  rcases List.mem_cons.1 hz with rfl|hz
  ·exact h1
  ·exact ht _ _ _ h1 ((List.pairwise_cons.1 ih).1 z hz)
theorem zeD {α:Type} {r:α→α→Prop} {l:List α} (h:l.Pairwise r) (j:Nat) (hj:j<l.length) (h0:0<j):r (l[j - 1]'(by omega)) l[j]:=
 List.pairwise_iff_getElem.1 h (j - 1) j (by omega) hj (by omega)
theorem zfd {α:Type} {l:List α} {i:Nat} {p:α→Bool} (hi:i<l.length):(l.take i).any p=false↔∀j (hj:j<l.length),j<i→p l[j]=false:=by
 rw[List.any_eq_false]
 constructor
 ·intro h j hj hji
  have hm:l[j]∈l.take i:=by
   rw[List.mem_take_iff_getElem]
   exact⟨j,by omega,rfl⟩
  simpa using h _ hm
 ·intro h x hx
  rw[List.mem_take_iff_getElem]at hx
  obtain⟨j,hj,rfl⟩:=hx
  simp[h j (by omega) (by omega)]
theorem zk1 {l:List Sess}:sessB l=true↔l.length≤5∧(∀x∈l,zfA x=true)∧SS l∧l.Pairwise fun a b=>a.num≠b.num:=by
 unfold sessB
 rw[Bool.and_eq_true,zcV]
 simp only[Nat.zero_add,Bool.not_eq_true',decide_eq_false_iff_not]
 constructor
 ·rintro⟨h1,h2⟩
  have q:∀j (hj:j<l.length),zfA l[j]=true∧(0<j→zoe l j<l[j].client)∧(∀k (hk:k<l.length),k<j→l[k].num≠l[j].num):=by
   intro j hj
   have:=h2 j hj
   unfold zfK at this
   simp only[Bool.and_eq_true,Bool.not_eq_true',Bool.or_eq_false_iff,Bool.and_eq_false_iff,decide_eq_false_iff_not]at this
   obtain⟨a,b,c⟩:=this
   refine⟨a,fun h0=> ?_,fun k hk hkj=> ?_⟩
   ·rcases b with b|b
    ·omega
    ·omega
   ·have:=(zfd hj).1 c k hk hkj
    simpa using this
  refine⟨by omega,fun x hx=> ?_, ?_, ?_⟩
  ·obtain⟨j,hj,rfl⟩:=List.getElem_of_mem hx
   exact(q j hj).1
  ·refine zdN (fun a b c h1 h2=>by omega) fun j hj h0=> ?_
   have:=(q j hj).2.1 h0
   unfold zoe at this
   rw[List.getElem?_eq_getElem (by omega)]at this
   simpa using this
  ·rw[List.pairwise_iff_getElem]
   intro i j hi hj hij
   exact(q j hj).2.2 i hi hij
 ·rintro⟨h1,h2,h3,h4⟩
  refine⟨by omega,fun j hj=> ?_⟩
  unfold zfK
  simp only[Bool.and_eq_true,Bool.not_eq_true',Bool.or_eq_false_iff,Bool.and_eq_false_iff,decide_eq_false_iff_not]
  refine⟨h2 _ (List.getElem_mem hj), ?_, ?_⟩
  ·by_cases h0:0<j
   ·right
    have:=zeD h3 j hj h0
    unfold zoe
    rw[List.getElem?_eq_getElem (by omega)]
    simpa using this
   ·left;omega
  ·exact(zfd hj).2 fun k hk hkj=>by
    have:=List.pairwise_iff_getElem.1 h4 k j hk hj hkj
    simpa using this
theorem zk2 {l:List Int}:lineB l=true↔l.length≤3∧(∀c∈l,isClient c=true)∧l.Nodup:=by
 unfold lineB
 rw[Bool.and_eq_true,zcV]
 simp only[Nat.zero_add,decide_eq_true_eq]
 constructor
 ·rintro⟨h1,h2⟩
  have q:∀j (hj:j<l.length),isClient l[j]=true∧(∀k (hk:k<l.length),k<j→l[k]≠l[j]):=by
   intro j hj
   have:=h1 j hj
   unfold zk3 at this
   simp only[Bool.not_eq_true',Bool.or_eq_false_iff,Bool.not_eq_false']at this
   refine⟨this.1,fun k hk hkj=> ?_⟩
   have h3:=(zfd hj).1 this.2 k hk hkj
   have h4:¬l[j]=l[k]:=by simpa using h3
   exact fun h=>h4 h.symm
  refine⟨by omega,fun x hx=> ?_, ?_⟩
  ·obtain⟨j,hj,rfl⟩:=List.getElem_of_mem hx
   exact(q j hj).1
  ·unfold List.Nodup
   rw[List.pairwise_iff_getElem]
   intro i j hi hj hij
   exact(q j hj).2 i hi hij
 ·rintro⟨h1,h2,h3⟩
  refine⟨fun j hj=> ?_,by omega⟩
  unfold zk3
  simp only[Bool.not_eq_true',Bool.or_eq_false_iff,Bool.not_eq_false']
  refine⟨h2 _ (List.getElem_mem hj), ?_⟩
  exact(zfd hj).2 fun k hk hkj=>by
   unfold List.Nodup at h3
   have:=List.pairwise_iff_getElem.1 h3 k j hk hj hkj
   simpa using fun h=>this h.symm
theorem zpl {l:List Lk}:lockB l=true↔l.length≤4∧(∀k∈l,zrt k=true∧lineB k.line=true∧hasI k.line k.holder=false)∧SL l∧l.Pairwise fun a b=>a.token≠b.token:=by
 unfold lockB
 rw[Bool.and_eq_true,zcV]
 simp only[Nat.zero_add,decide_eq_true_eq]
 constructor
 ·rintro⟨h1,h2⟩
  have q:∀j (hj:j<l.length),(zrt l[j]=true∧lineB l[j].line=true∧hasI l[j].line l[j].holder=false)∧(0<j→zjW (zof l j) l[j].name=true)∧(∀k (hk:k<l.length),k<j→l[k].token≠l[j].token):=by
   intro j hj
   have:=h1 j hj
   unfold zfV at this
   simp only[Bool.and_eq_true,Bool.not_eq_true',Bool.or_eq_false_iff,Bool.and_eq_false_iff,decide_eq_false_iff_not,Bool.not_eq_false']at this
   obtain⟨⟨a,⟨b1,b2⟩,b3⟩,c⟩:=this
   refine⟨⟨a,b1,b2⟩,fun h0=> ?_,fun k hk hkj=> ?_⟩
   ·rcases b3 with b|b
    ·omega
    ·exact b
   ·have:=(zfd hj).1 c k hk hkj
    simpa using this
  refine⟨by omega,fun x hx=> ?_, ?_, ?_⟩
  ·obtain⟨j,hj,rfl⟩:=List.getElem_of_mem hx
   exact(q j hj).1
  ·refine zdN (r:=fun x y:Lk=>zjW x.name y.name=true) (fun a b c h1 h2=>zjX h1 h2) fun j hj h0=> ?_
   have:=(q j hj).2.1 h0
   unfold zof at this
   rw[List.getElem?_eq_getElem (by omega)]at this
   simpa using this
  ·rw[List.pairwise_iff_getElem]
   intro i j hi hj hij
   exact(q j hj).2.2 i hi hij
 ·rintro⟨h1,h2,h3,h4⟩
  refine⟨fun j hj=> ?_,by omega⟩
  unfold zfV
  simp only[Bool.and_eq_true,Bool.not_eq_true',Bool.or_eq_false_iff,Bool.and_eq_false_iff,decide_eq_false_iff_not,Bool.not_eq_false']
  obtain⟨a,b,c⟩:=h2 _ (List.getElem_mem hj)
  refine⟨⟨a,⟨b,c⟩, ?_⟩, ?_⟩
  ·by_cases h0:0<j
   ·right
    have:=zeD h3 j hj h0
    unfold zof
    rw[List.getElem?_eq_getElem (by omega)]
    simpa using this
   ·left;omega
  ·exact(zfd hj).2 fun k hk hkj=>by
    have:=List.pairwise_iff_getElem.1 h4 k j hk hj hkj
    simpa using this
theorem zpm {l:List Memo}:memoB l=true↔(∀m∈l,answerB m=true)∧SM l:=by
 unfold memoB
 rw[zcV]
 simp only[Nat.zero_add]
 constructor
 ·intro h1
  have q:∀j (hj:j<l.length),answerB l[j]=true∧(0<j→zoh l j<l[j].client):=by
   intro j hj
   have:=h1 j hj
   unfold zfW at this
   simp only[Bool.not_eq_true',Bool.or_eq_false_iff,Bool.and_eq_false_iff,decide_eq_false_iff_not,Bool.not_eq_false']at this
   refine⟨this.1,fun h0=> ?_⟩
   rcases this.2 with b|b
   ·omega
   ·omega
  refine⟨fun x hx=> ?_, ?_⟩
  ·obtain⟨j,hj,rfl⟩:=List.getElem_of_mem hx
   exact(q j hj).1
  ·refine zdN (fun a b c h1 h2=>by omega) fun j hj h0=> ?_
   have:=(q j hj).2 h0
   unfold zoh at this
   rw[List.getElem?_eq_getElem (by omega)]at this
   simpa using this
 ·rintro⟨h2,h3⟩ j hj
  unfold zfW
  simp only[Bool.not_eq_true',Bool.or_eq_false_iff,Bool.and_eq_false_iff,decide_eq_false_iff_not,Bool.not_eq_false']
  refine⟨h2 _ (List.getElem_mem hj), ?_⟩
  by_cases h0:0<j
  ·right
   have:=zeD h3 j hj h0
   unfold zoh
   rw[List.getElem?_eq_getElem (by omega)]
   simpa using this
  ·left;omega
theorem zdY {s:St}:zbV s=true↔RightS s:=by
 unfold zbV zeE within
 simp only[Bool.and_eq_true,decide_eq_true_eq,zk1,zpl,zpm,List.all_eq_true,List.mem_cons,forall_eq_or_imp]
 constructor
 ·rintro⟨⟨⟨⟨⟨⟨⟨⟨h1,h2⟩,h3⟩,a,b,c,d⟩,e,f,g,h⟩,i,j⟩,k⟩,l⟩,m⟩
  exact⟨h1,h2,h3,c,fun x hx=>⟨b x hx,k x hx⟩,d,a,g,fun k hk=>⟨(f k hk).1,l k hk,(f k hk).2⟩,h,e,j,i,m⟩
 ·intro h
  exact⟨⟨⟨⟨⟨⟨⟨⟨h.time,h.num⟩,h.token⟩,h.sl,fun x hx=>(h.sok x hx).1,h.ss,h.snd⟩,h.ll,fun k hk=>⟨(h.lok k hk).1,(h.lok k hk).2.2⟩,h.ls,h.lnd⟩,h.mok,h.ms⟩,fun x hx=>(h.sok x hx).2⟩,fun k hk=>(h.lok k hk).2.1⟩,h.seat⟩
theorem ztk {l:List Memo}:SM l↔(l.map Memo.client).Pairwise (·<·):=by unfold SM;rw[List.pairwise_map]
theorem znf {k:Lk}:zrt k=true↔nameP k.name=true∧(0≤k.holder∧k.holder<8)∧1≤k.token∧k.token≤zcT:=by
 unfold zrt
 simp only[Bool.and_eq_true,Bool.not_eq_true',decide_eq_false_iff_not]
 constructor
 ·rintro⟨⟨⟨⟨a,b⟩,c⟩,d⟩,e⟩;exact⟨a,⟨by omega,by omega⟩,by omega,by omega⟩
 ·rintro⟨a,⟨b,c⟩,d,e⟩;exact⟨⟨⟨⟨a,by omega⟩,by omega⟩,by omega⟩,by omega⟩
theorem zi5 {x:Sess}:zfA x=true↔isClient x.client=true∧(1≤x.num∧x.num≤zcT)∧0≤x.renewed∧x.renewed≤zcT:=by
 unfold zfA
 simp only[Bool.and_eq_true,Bool.not_eq_true',decide_eq_false_iff_not]
 constructor
 ·rintro⟨⟨⟨⟨a,b⟩,c⟩,d⟩,e⟩;exact⟨a,⟨by omega,by omega⟩,by omega,by omega⟩
 ·rintro⟨a,⟨b,c⟩,d,e⟩;exact⟨⟨⟨⟨a,by omega⟩,by omega⟩,by omega⟩,by omega⟩
structure DoneR (s t:St) (a:Reply):Prop where
 rt:RightS t
 tok:s.token≤t.token∧t.token≤s.token+4
 num:s.num≤t.num∧t.num≤s.num+1
 time:t.time=s.time
 code:0≤a.code∧a.code≤12
def zA0 {α:Type} (p:α→Bool) (x:α):List α→List α
 |[]=>[x]
 |y::r=>if p y=true then x::y::r else y::zA0 p x r
def zwN (c now:Int) (y:Sess):Sess:=if(y.client==c)=true then⟨y.client,y.num,max y.renewed now⟩else y
def zBq (l:List Sess) (c now:Int) (i:Nat):List Sess:=(l.take i).map (zwN c now)++l.drop i
def zcl (r:Reply):Prop:=r.held.length<2^30∧∀g∈r.held,g.name.size<2^62
theorem zfT (r:Reply) (hr:zcl r):CallOK prog 74 [.f (.agg r.lent)] (fun x o=>x=[rb (zb2 r)]∧o=[]):=by
 refine zh func74 results74 ntmps74 call74 ?_
 simp only[f74,Option.getD]
 obtain⟨h1,h2⟩:=hr
 cases hA:(decide (r.code<0)||decide (r.code>12)||decide (r.session<0)||decide (r.session>2305843009213693952)||decide (r.ahead<0)||decide (r.ahead>3))
 ·cases hB:(decide ((r.held.length:Int)>4)||(r.session==0)&&decide ((r.held.length:Int)>0))
  ·have hs:zb2 r=zbb (zcS r.held) 0 r.held:=by
    unfold zb2
    rw[show(decide (r.code<0)||decide (r.code>12)||decide (r.session<0)||decide (r.session>zcT)||decide (r.ahead<0)||decide (r.ahead>3))=false from hA,hB]
    rfl
   rw[hs]
   refine zL0 (I hA hB) ?_
   refine zaf (τ:=Nat) (fun i=>⟨(dd::ptq 1::dq7 (zdO (al r.held.length (zaO r.held)::ai r.held.length::ai i::zup []))),[(1,⟨2,[obq 1 [di r.code,di r.session,di r.ahead, .lent r.held.length (zaO r.held)],none,none,none,none]⟩),(4,⟨2,[]⟩)]⟩)
    (fun i=>i≤r.held.length) (fun i=>zbb (zcS r.held) i (r.held.drop i)) (fun i=>r.held.length - i) 0
    (Gh.canon [1] [4] [] zK rfl rfl) (Nat.zero_le _) ?_
   intro i hi0 hF K hK
   rw[List.drop_zero]at hF
   refine zw ?_
   refine zab (fun hlt=> ?_) (fun hge=> ?_)
   ·have hi:i<r.held.length:=by simpa using hlt
    have hat:=zb3 hi
    have hw:=zai hi (by omega)
    rw[zau hi]at hF
    have hnm:=zkx r.held[i].name (h2 _ (List.getElem_mem hi))
    cases e0:decide ((i:Int)>0)
    ·have h0:i=0:=by simpa using e0
     have hq:zcS r.held i r.held[i]= !(!nameP r.held[i].name||decide (r.held[i].token<1)||decide (r.held[i].token>2305843009213693952)):=by
      unfold zcS
      have:decide (i>0)=false:=by simpa using e0
      rw[this,Bool.false_and,Bool.or_false]
     have hp:(zaO r.held).drop ((IntKind.i64.wrap ((i:Int) - 1)).toNat*2)=r.held[i].enc++zaO (r.held.drop (i+1)):=by
      rw[←zb3 hi,h0];rfl
     repeat'(first|exact zC|refine zq (I hat (I hp (I e0 (I @zam zca)))) ?_|refine zx (hnm) ?_|(apply zab<;>intro hb)|(apply I;exact zI)|(apply I<;>intro hg))
     ·rw[hq,hb,if_neg (by simp)]at hF
      rw[←hF]
     ·exact hK _ (i+1) (Gh.canon [1] [] [] (zk hw) rfl rfl) hi (by rw[zau hi,hq,hb];rfl) (by omega)
    ·have h0:0<i:=by simpa using e0
     have hq:zcS r.held i r.held[i]= !(!nameP r.held[i].name||decide (r.held[i].token<1)||decide (r.held[i].token>2305843009213693952)|| !(zjW (r.held[i - 1]'(by omega)).name r.held[i].name)):=by
      unfold zcS zul
      have:decide (i>0)=true:=by simpa using e0
      rw[this,List.getElem?_eq_getElem (by omega)]
      simp only[Bool.true_and,Option.map_some,Option.getD_some]
     have hp:=zb3 (show i - 1<r.held.length by omega)
     have hw1:IntKind.i64.wrap ((i:Int) - 1)=((i - 1:Nat):Int):=by rw[wrap64 (by omega) (by omega)];omega
     repeat'(first|exact zC|refine zq (I hat (I hp (I hw1 (I e0 (I @zam zca))))) ?_|refine zx (hnm) ?_|(apply zab<;>intro hb)|(apply I;exact zI)|(apply I<;>intro hg))
     ·rw[hq,hb,if_neg (by simp)]at hF
      rw[←hF]
     ·exact hK _ (i+1) (Gh.canon [1] [] [] (zk hw) rfl rfl) hi (by rw[zau hi,hq,hb];rfl) (by omega)
   ·have hi:i=r.held.length:=by
     have:¬(i:Int)<r.held.length:=by simpa using hge
     omega
    rw[zb6 hi]at hF
    rw[←hF]
    exact zW0 trivial
  ·have hs:zb2 r=false:=by
    unfold zb2
    rw[hB,Bool.not_true,Bool.and_false,Bool.false_and]
   rw[hs]
   exact zW0 (I hA hB)
 ·have hs:zb2 r=false:=by
   unfold zb2
   rw[show(decide (r.code<0)||decide (r.code>12)||decide (r.session<0)||decide (r.session>zcT)||decide (r.ahead<0)||decide (r.ahead>3))=true from hA]
   rfl
  rw[hs]
  exact zW0 hA
theorem zdU (m:Memo) (hr:zcl m.reply):CallOK prog 35 [.f (.agg m.lent)] (fun x o=>x=[rb (answerB m)]∧o=[]):=by
 refine zh func35 results35 ntmps35 call35 ?_
 simp only[f35,Option.getD]
 refine zL trivial (zfT m.reply hr) ?_
 rfl
def zwJ:Memo:=⟨0,0,⟨0,0,0,[]⟩⟩
theorem zlZ (l:List Memo) (hl:l.length<2^30) (hll:∀m∈l,zcl m.reply):CallOK prog 122 [.f (al l.length (zaM l))] (fun r o=>r=[rb (memoB l)]∧o=[]):=by
 refine zh func122 results122 ntmps122 call122 ?_
 simp only[f122,Option.getD]
 refine zL0 @zaw ?_
 refine zaf (τ:=Nat) (fun i=>⟨(al l.length (zaM l)::dq4 (al l.length (zaM l)::ai l.length::ai i::zwa [])),[(4,⟨2,[]⟩)]⟩)
  (fun i=>i≤l.length) (fun i=>zbb (zfW l) i (l.drop i)) (fun i=>l.length - i) 0
  (Gh.canon [] [4] [] zK rfl rfl) (Nat.zero_le _) ?_
 intro i hi0 hF K hK
 rw[List.drop_zero]at hF
 refine zw ?_
 refine zab (fun hlt=> ?_) (fun hge=> ?_)
 ·have hi:i<l.length:=by simpa using hlt
  have hat:=zcf hi
  have hw:=zai hi (by omega)
  rw[zau hi]at hF
  have hma:=zdU l[i] (hll _ (List.getElem_mem hi))
  cases e0:decide ((i:Int)>0)
  ·have h0:i=0:=by simpa using e0
   have hq:zfW l i l[i]= !(!answerB l[i]):=by
    unfold zfW
    have:decide (i>0)=false:=by simpa using e0
    rw[this,Bool.false_and,Bool.or_false]
   have hp:(zaM l).drop ((IntKind.i64.wrap ((i:Int) - 1)).toNat*6)=l[i].enc++zaM (l.drop (i+1)):=by
    rw[←zcf hi,h0];rfl
   repeat'(first|exact zC|refine zq (I hat (I hp (I e0 (I @zaw zca)))) ?_|refine zx (hma) ?_|(apply zab<;>intro hb)|(apply I;exact zI)|(apply I<;>intro hg))
   ·rw[hq,hb,if_neg (by simp)]at hF
    unfold memoB
    rw[←hF]
   ·exact hK _ (i+1) (Gh.canon [] [] [] (zk hw) rfl rfl) hi (by rw[zau hi,hq,hb];rfl) (by omega)
  ·have h0:0<i:=by simpa using e0
   have hq:zfW l i l[i]= !(!answerB l[i]||decide ((l[i - 1]'(by omega)).client≥l[i].client)):=by
    unfold zfW zoh
    have:decide (i>0)=true:=by simpa using e0
    rw[this,List.getElem?_eq_getElem (by omega)]
    simp only[Bool.true_and,Option.map_some,Option.getD_some]
   have hp:=zcf (show i - 1<l.length by omega)
   have hw1:IntKind.i64.wrap ((i:Int) - 1)=((i - 1:Nat):Int):=by rw[wrap64 (by omega) (by omega)];omega
   repeat'(first|exact zC|refine zq (I hat (I hp (I hw1 (I e0 (I @zaw zca))))) ?_|refine zx (hma) ?_|(apply zab<;>intro hb)|(apply I;exact zI)|(apply I<;>intro hg))
   ·rw[hq,hb,if_neg (by simp)]at hF
    unfold memoB
    rw[←hF]
   ·exact hK _ (i+1) (Gh.canon [] [] [] (zk hw) rfl rfl) hi (by rw[zau hi,hq,hb];rfl) (by omega)
 ·have hi:i=l.length:=by
   have:¬(i:Int)<l.length:=by simpa using hge
   omega
  rw[zb6 hi]at hF
  unfold memoB
  rw[←hF]
  exact zW0 trivial
abbrev stE (s:St):List D:=[iD s.time,iD s.num,iD s.token, .sl s.sess.length (zaV s.sess), .sl s.locks.length (zay s.locks), .sl s.memos.length (zaM s.memos)]
abbrev zBi (s:St):RF:= .agg ((stE s).map RO.d)
abbrev zxs (a:Reply):RF:= .agg [.d (iD a.code), .d (iD a.session), .d (iD a.ahead), .own 2 a.held.length (zaO a.held) false]
structure Small (s:St):Prop where
 sess:s.sess.length<2^30
 locks:s.locks.length<2^30
 memos:s.memos.length<2^30
 line:∀k∈s.locks,k.line.length<2^30∧k.name.size<2^62
 held:∀m∈s.memos,zcl m.reply
abbrev zxt (l:List Sess) (gone:List Int):List Sess:=l.filter fun x=> !hasI gone x.client
abbrev zAT (b:St) (x:Sess):Bool:= !((zbL b.sess x.client).any fun y=>y.num==x.num)
theorem zhR (n:Int):CallOK prog 119 [.f (ai n)] (fun r o=>r=[rb (within n)]∧o=[]):=by
 refine zh func119 results119 ntmps119 call119 ?_
 simp only[f119,Option.getD]
 refine zL0 trivial ?_
 rfl
theorem zpk (s:St) (h:Small s) (hs:SS s.sess):CallOK prog 123 [.f (.agg s.lent)] (fun r o=>r=[rb (zeE s)]∧o=[]):=by
 refine zh func123 results123 ntmps123 call123 ?_
 simp only[f123,Option.getD]
 have hL:=h.locks
 refine zL0 trivial ?_
 refine zaf (τ:=Nat) (fun i=>⟨(dd::ptq 1::dd::ab true::dq7 (al s.locks.length (zay s.locks)::ai s.locks.length::ai i::zuo [])),[(1,⟨2,[obq 1 [di s.time,di s.num,di s.token, .lent s.sess.length (zaV s.sess), .lent s.locks.length (zay s.locks), .lent s.memos.length (zaM s.memos)],none,none,none,none,none,none]⟩),(5,⟨2,[]⟩),(8,⟨2,[]⟩),(19,⟨2,[]⟩),(22,⟨2,[]⟩)]⟩)
  (fun i=>i≤s.locks.length) (fun i=>(s.locks.drop i).all fun k=>(k.holder::k.line).all fun c=>(zbL s.sess c).isSome) (fun i=>s.locks.length - i) 0
  (Gh.canon [1] [5,8,19,22] [] zK rfl rfl) (Nat.zero_le _) ?_
 intro i hi0 hF K hK
 rw[List.drop_zero]at hF
 refine zw ?_
 refine zab (fun hlt=> ?_) (fun hge=> ?_)
 ·have hi:i<s.locks.length:=by simpa using hlt
  have hat:=zbo hi
  have hw:=zai hi (by omega)
  have hli:=(h.line _ (List.getElem_mem hi)).1
  rw[List.drop_eq_getElem_cons hi,List.all_cons]at hF
  obtain⟨c,hc⟩:∃c,c=s.locks[i].holder::s.locks[i].line:=⟨_,rfl⟩
  have hcl:c.length=1+s.locks[i].line.length:=by rw[hc,List.length_cons];omega
  rw[←hc]at hF
  refine zL0 (I hat (I @zan (I @zaW zca))) ?_
  refine zaf (τ:=Nat) (fun j=>⟨(dd::ptq 1::dd::ab true::dq7 (al s.locks.length (zay s.locks)::ai s.locks.length::ai i::dq8 (.one (.own ⟨19,1,1⟩ 0 c.length)::ai c.length::ai j::zvD []))),[(1,⟨2,[obq 1 [di s.time,di s.num,di s.token, .lent s.sess.length (zaV s.sess), .lent s.locks.length (zay s.locks), .lent s.memos.length (zaM s.memos)],none,none,none,none,none,none]⟩),(5,⟨2,[]⟩),(8,⟨2,[]⟩),(19,⟨2,[none,roq 1 1 (za5 c)]⟩),(22,⟨2,[]⟩)]⟩)
   (fun j=>j≤c.length) (fun j=>(c.drop j).all fun c=>(zbL s.sess c).isSome) (fun j=>c.length - j) 0
   (Gh.canon [1,19] [] [] (zk hcl) rfl (by rw[hc];rfl)) (Nat.zero_le _) ?_
  intro j hj0 hF2 K2 hK2
  rw[List.drop_zero]at hF2
  refine zw ?_
  refine zab (fun hlt2=> ?_) (fun hge2=> ?_)
  ·have hj:j<c.length:=by simpa using hlt2
   have haj:=zce hj
   have hwj:=zai hj (by omega)
   have hfi:=zsI s.sess hs (by have:=h.sess;omega) c[j]
   rw[List.drop_eq_getElem_cons hj,List.all_cons]at hF2
   cases hb:(zbL s.sess c[j]).isSome
   ·rw[hb]at hfi hF2
    rw[←hF2]at hF
    refine zL (I haj (I @zmd (I @List.map_cons.{0,0} (I @zaW zca)))) (hfi) ?_
    unfold zeE
    rw[←hF]
    rfl
   ·rw[hb]at hfi hF2
    refine zL (I haj (I @zmd (I @List.map_cons.{0,0} (I @zaW zca)))) (hfi) ?_
    exact hK2 _ (j+1) (Gh.canon [1,19] [] [] (zk hwj) rfl rfl) hj (by rw[List.drop_eq_getElem_cons hj,List.all_cons,hb,Bool.true_and]) (by omega)
  ·have hj:j=c.length:=by
    have:¬(j:Int)<c.length:=by simpa using hge2
    omega
   rw[hj,List.drop_length,List.all_nil]at hF2
   rw[←hF2,Bool.true_and]at hF
   refine zL0 trivial ?_
   exact hK _ (i+1) (Gh.canon [1] [] [] (zk hw) rfl rfl) hi (by rw[List.drop_eq_getElem_cons hi,List.all_cons,←hc,←hF2,Bool.true_and]) (by omega)
 ·have hi:i=s.locks.length:=by
   have:¬(i:Int)<s.locks.length:=by simpa using hge
   omega
  rw[hi,List.drop_length,List.all_nil]at hF
  refine zL0 trivial ?_
  unfold zeE
  rw[←hF]
set_option maxHeartbeats 1000000 in
theorem zjV (s:St) (h:Small s):CallOK prog 79 [.f (.agg s.lent)] (fun r o=>r=[rb (zbV s)]∧o=[]):=by
 refine zh func79 results79 ntmps79 call79 ?_
 simp only[f79,Option.getD]
 have w1:=zhR s.time
 have w2:=zhR s.num
 have w3:=zhR s.token
 have hsr:=zl3 s.sess h.sess
 have hlr:=zl1 s.locks h.locks h.line
 have hmr:=zlZ s.memos h.memos h.held
 have hns:=h.sess
 have hnl:=h.locks
 cases hA:(!within s.time|| !within s.num|| !within s.token|| !sessB s.sess|| !lockB s.locks|| !memoB s.memos)
 ·have hss:SS s.sess:=(zk1.1 (by simp at hA;exact hA.1.1.2)).2.2.1
  have hrb:zbV s=((s.sess.all fun x=>decide (x.num≤s.num))&&(s.locks.all fun k=>decide (k.token≤s.token))&&zeE s):=by
   unfold zbV
   simp at hA
   rw[hA.1.1.1.1.1,hA.1.1.1.1.2,hA.1.1.1.2,hA.1.1.2,hA.1.2,hA.2]
   rfl
  have hse:=zpk s h hss
  refine zL hA (I (w1) (I (w2) (I (w3) (I (hsr) (I (hlr) (hmr)))))) ?_
  refine zaf (τ:=Nat) (fun i=>⟨(dd::ptq 1::zdO (al s.sess.length (zaV s.sess)::ai s.sess.length::ai i::zvF [])),[(1,⟨2,[obq 1 [di s.time,di s.num,di s.token, .lent s.sess.length (zaV s.sess), .lent s.locks.length (zay s.locks), .lent s.memos.length (zaM s.memos)],none,none,none,none,none,none]⟩),(4,⟨2,[]⟩)]⟩)
   (fun i=>i≤s.sess.length) (fun i=>(s.sess.drop i).all fun x=>decide (x.num≤s.num)) (fun i=>s.sess.length - i) 0
   (Gh.canon [1] [4] [] zK rfl rfl) (Nat.zero_le _) ?_
  intro i hi0 hF K hK
  rw[List.drop_zero]at hF
  refine zw ?_
  refine zab (fun hlt=> ?_) (fun hge=> ?_)
  ·have hi:i<s.sess.length:=by simpa using hlt
   have hat:=zbH hi
   have hw:=zai hi (by omega)
   rw[List.drop_eq_getElem_cons hi,List.all_cons]at hF
   repeat'(first|exact zC|refine zq (I hat (I @zat zca)) ?_|(apply zab<;>intro hb)|(apply I;exact zI)|(apply I<;>intro hg))
   ·rw[show decide (s.sess[i].num≤s.num)=false by simp at hb⊢;omega]at hF
    rw[hrb,←hF]
    rfl
   ·exact hK _ (i+1) (Gh.canon [1] [] [] (zk hw) rfl rfl) hi (by rw[List.drop_eq_getElem_cons hi,List.all_cons,show decide (s.sess[i].num≤s.num)=true by simp at hb⊢;omega,Bool.true_and]) (by omega)
  ·have hi:i=s.sess.length:=by
    have:¬(i:Int)<s.sess.length:=by simpa using hge
    omega
   rw[hi,List.drop_length,List.all_nil]at hF
   rw[←hF,Bool.true_and]at hrb
   refine zL0 trivial ?_
   refine zaf (τ:=Nat) (fun i=>⟨(dd::ptq 1::zrv (zdO (al s.locks.length (zay s.locks)::ai s.locks.length::ai i::zv6 []))),[(1,⟨2,[obq 1 [di s.time,di s.num,di s.token, .lent s.sess.length (zaV s.sess), .lent s.locks.length (zay s.locks), .lent s.memos.length (zaM s.memos)],none,none,none,none,none,none]⟩),(4,⟨2,[]⟩),(6,⟨2,[]⟩)]⟩)
    (fun i=>i≤s.locks.length) (fun i=>(s.locks.drop i).all fun k=>decide (k.token≤s.token)) (fun i=>s.locks.length - i) 0
    (Gh.canon [1] [6] [] zK rfl rfl) (Nat.zero_le _) ?_
   intro i hi0 hF K hK
   rw[List.drop_zero]at hF
   refine zw ?_
   refine zab (fun hlt=> ?_) (fun hge=> ?_)
   ·have hi:i<s.locks.length:=by simpa using hlt
    have hat:=zbo hi
    have hw:=zai hi (by omega)
    rw[List.drop_eq_getElem_cons hi,List.all_cons]at hF
    repeat'(first|exact zC|refine zq (I hat (I @zan zca)) ?_|(apply zab<;>intro hb)|(apply I;exact zI)|(apply I<;>intro hg))
    ·rw[show decide (s.locks[i].token≤s.token)=false by simp at hb⊢;omega]at hF
     rw[hrb,←hF]
     rfl
    ·exact hK _ (i+1) (Gh.canon [1] [] [] (zk hw) rfl rfl) hi (by rw[List.drop_eq_getElem_cons hi,List.all_cons,show decide (s.locks[i].token≤s.token)=true by simp at hb⊢;omega,Bool.true_and]) (by omega)
   ·have hi:i=s.locks.length:=by
     have:¬(i:Int)<s.locks.length:=by simpa using hge
     omega
    rw[hi,List.drop_length,List.all_nil]at hF
    rw[←hF,Bool.true_and]at hrb
    rw[hrb]
    exact zW trivial (hse)
 ·have hrb:zbV s=false:=by
   unfold zbV
   simp at hA
   simp
   intros
   simp_all
  rw[hrb]
  exact zW hA (I (w1) (I (w2) (I (w3) (I (hsr) (I (hlr) (hmr))))))
abbrev zBh (s:St):AV:= .agg ((stE s).map C.d)
theorem zgH {b:ByteArray} (h:nameP b=true):b.size≤12:=by
 unfold nameP at h
 simp only[Bool.and_eq_true,decide_eq_true_eq]at h
 omega
theorem zpj {r:Reply} (h:zb2 r=true):zcl r:=by
 unfold zb2 at h
 simp only[Bool.and_eq_true,Bool.not_eq_true',Bool.or_eq_false_iff,decide_eq_false_iff_not]at h
 obtain⟨⟨_,h1,_⟩,h2⟩:=h
 refine⟨by omega,fun g hg=> ?_⟩
 obtain⟨j,hj,rfl⟩:=List.getElem_of_mem hg
 have:=zcV.1 h2 j hj
 unfold zcS at this
 simp only[Bool.not_eq_true',Bool.or_eq_false_iff,Bool.not_eq_false']at this
 have:=zgH this.1.1.1
 omega
theorem zgI:∀{l:List Int} {a b:Int},l.Pairwise (·<·)→(∀x∈l,a≤x∧x<b)→(l.length:Int)≤max (b - a) 0
 |[],a,b,_,_=>by simp;omega
 |x::l,a,b,h,hb=>by
  have h':=List.pairwise_cons.1 h
  have hx:=hb x (List.mem_cons_self ..)
  have:=zgI (a:=x+1) (b:=b) h'.2 (fun y hy=>⟨by have:=h'.1 y hy;omega,(hb y (List.mem_cons_of_mem _ hy)).2⟩)
  simp only[List.length_cons];omega
theorem zei {m:Memo} (h:answerB m=true):(0≤m.client∧m.client<8)∧(1≤m.seq∧m.seq≤zcT)∧zb2 m.reply=true:=by
 unfold answerB at h
 simp only[Bool.and_eq_true,decide_eq_true_eq]at h
 exact⟨⟨h.1.1.1.1,h.1.1.1.2⟩,⟨h.1.1.2,h.1.2⟩,h.2⟩
theorem zcU {s:St} (h:RightS s):Small s:=by
 refine⟨by have:=h.sl;omega,by have:=h.ll;omega, ?_,fun k hk=> ?_,fun m hm=>zpj (zei (h.mok m hm)).2.2⟩
 ·have:=zgI (a:=0) (b:=8) (ztk.1 h.ms) (fun x hx=>by
   obtain⟨m,hm,rfl⟩:=List.mem_map.1 hx
   exact(zei (h.mok m hm)).1)
  rw[List.length_map]at this
  omega
 ·obtain⟨a,_,b,_⟩:=h.lok k hk
  have h1:=(zk2.1 b).1
  have h2:=zgH (znf.1 a).1
  omega
abbrev zBp (l:List Sess) (gone:List Int) (i:Nat):List Sess:=zxt l (gone.take i)
def zdi (n:Int):Prop:=0≤n∧n<256
def zvR:List ByteArray:=[⟨#[97]⟩,⟨#[98]⟩,⟨#[99]⟩,⟨#[100]⟩,⟨#[107,101,121,45,49]⟩,⟨#[116,104,101,45,108,97,115,116,45,111,110,101]⟩]
def zvS (n:Int):ByteArray:=(zvR[(n % 6).toNat]?).getD .empty
def zpi (a:Int):Int:=1+a % 6
def zxp (a b:Int):Int:=if zpi a=1 then 0 else 1+b % 7
def zxq (a c:Int):ByteArray:=if(zpi a==3||zpi a==4||zpi a==5)=true then zvS c else .empty
structure Act where
 time:Int
 client:Int
 seq:Int
 kind:Int
 session:Int
 name:Int
abbrev Act.enc (a:Act):List D:=[uD a.time,uD a.client,uD a.seq,uD a.kind,uD a.session,uD a.name]
abbrev zAQ (l:List Act):List D:=l.flatMap Act.enc
def zxr (a:Act):Prop:=zdi a.time∧zdi a.client∧zdi a.seq∧zdi a.kind∧zdi a.session∧zdi a.name
def zAR (c q k s n:Int):Req:=⟨c % 8,1+q,zpi k,zxp k s,zxq k n⟩
def zAS (s:St) (a:Act):Req:=
 let r:=zAR a.client (a.seq % 6) a.kind a.session a.name
 let b1:=(zbL s.sess r.client).isSome&&decide (a.session % 8>0)&&(r.kind !=1)
 let b2:= !(zbL s.sess r.client).isSome&&decide (a.session % 4>0)
 ⟨r.client,if decide (a.seq % 5>0)=true then(if(zps s.memos r.client).isSome=true then((zps s.memos r.client).getD zwJ).seq+1 else 1)else r.seq,
  if b2=true then 1 else r.kind,if b2=true then 0 else if b1=true then((zbL s.sess r.client).getD zl2).num else r.session,if b2=true then .empty else r.name⟩
theorem zem (v a:Int):CallOK prog 82 [.f (ai v), .f (ai a)] (fun r o=>r=[rb (decide (v≥a)&&decide (v≤2305843009213693952))]∧o=[]):=by
 refine zh func82 results82 ntmps82 call82 ?_
 simp only[f82,Option.getD]
 exact zW0 trivial
theorem zhA (s:ByteArray) (hs:s.size<2^62):CallOK prog 132 [.f (ast s)] (fun r o=>r=[rb (nameP s)]∧o=[]):=by
 refine zh func132 results132 ntmps132 call132 ?_
 simp only[f132,Option.getD]
 refine zw ?_
 refine zab (fun hb=> ?_) (fun hb=> ?_)
 ·refine zw ?_
  have:nameP s=false:=by
   unfold nameP
   rw[Bool.and_eq_false_iff];right
   simp only[Bool.or_eq_true,decide_eq_true_eq]at hb
   simp only[Bool.and_eq_false_iff,decide_eq_false_iff_not]
   omega
  rw[this]
 have hsz:(decide ((s.size:Int)≥1)&&decide ((s.size:Int)≤12))=true:=by
  simp only[Bool.or_eq_false_iff,decide_eq_false_iff_not]at hb
  simp only[Bool.and_eq_true,decide_eq_true_eq]
  omega
 refine zw ?_
 refine zhz Ty prog (τ:=Nat) (fun i=>⟨(ast s::dd::ab false::ai i::zxd []),[]⟩) (fun i=>i≤s.size∧∀j,j<i→zgi (s.data.getD j 0)=true) (fun i=>s.size - i) 0 ?_ ⟨Nat.zero_le _,fun j hj=>absurd hj (Nat.not_lt_zero j)⟩ ?_
 ·refine Gh.fgt ?_
  simp only[ddE,zaQ,zaR,za8,Int.natCast_zero]
 intro i ⟨h1,h2⟩ K hK
 refine zw ?_
 refine zab (fun hlt=> ?_) (fun hge=> ?_)
 ·have hi:i<s.size:=by simpa using hlt
  refine zw ?_
  refine⟨⟨Int.natCast_nonneg i,by omega⟩, ?_⟩
  refine⟨zqC ?_, ?_⟩
  ·simp_all;omega
  have hok:zgi (s.data.getD i 0)= !((decide (((s.data.getD i 0).toNat:Int)<97)||decide (((s.data.getD i 0).toNat:Int)>122))&&(decide (((s.data.getD i 0).toNat:Int)<48)||decide (((s.data.getD i 0).toNat:Int)>57))&&(((s.data.getD i 0).toNat:Int) !=45)):=rfl
  generalize ((s.data.getD i 0).toNat:Int)=c at hok⊢
  refine zab (fun hb2=> ?_) (fun hb2=> ?_)
  ·refine zw ?_
   have hn:nameP s=false:=by
    unfold nameP
    rw[show((List.range s.size).all fun j=>zgi (s.data.getD j 0))=false from List.all_eq_false.2 ⟨i,List.mem_range.2 hi,by rw[hok];revert hb2;simp;omega⟩,Bool.false_and]
   rw[hn]
  ·refine zw ?_
   refine hK _ (i+1) (Gh.fgt ?_) ⟨hi,fun j hj=> ?_⟩ (by omega)
   ·simp only[zai hi (by omega),ddE,zaQ,zaR,za8]
   ·rcases Nat.lt_or_ge j i with h|h
    ·exact h2 j h
    ·rw[show j=i from by omega,hok];revert hb2;simp;omega
 ·refine zw ?_
  have hi:i=s.size:=by
   have:¬(i:Int)<s.size:=by simpa using hge
   omega
  have hn:nameP s=true:=by
   unfold nameP
   rw[show((List.range s.size).all fun j=>zgi (s.data.getD j 0))=true from List.all_eq_true.2 fun j hj=>h2 j (by rw[hi];exact List.mem_range.1 hj),Bool.true_and,hsz]
  rw[hn]
theorem zmV (k n:Int) (s:ByteArray) (hs:s.size<2^62):CallOK prog 83 [.f (.agg [di k,di n,dS s])] (fun r o=>r=[rb (zlY k n s)]∧o=[]):=by
 refine zh func83 results83 ntmps83 call83 ?_
 simp only[f83,Option.getD]
 repeat'(first|exact zC|refine za0 ?_|((first|((try refine zaB ?_);apply zaC)|(apply zaE;intro _));(solve|exact(zhA _ hs)|(refine CallOK.le (zhA _ hs) ?_;exact zM)|fail);try case hn=>rfl)|((first|((try refine zaB ?_);apply zaC)|(apply zaE;intro _));(solve|exact(zem _ _)|(refine CallOK.le (zem _ _) ?_;exact zM)|fail);try case hn=>rfl)|(apply zab<;>intro hb)|(apply I;exact zI)|(apply I<;>intro hg))
 all_goals refine congrArg (fun b=>[rb b]) ?_
 all_goals simp only[beq_iff_eq,beq_eq_false_iff_ne,ne_eq]at*
 all_goals first
  |(exfalso;omega)
  |(subst_vars;unfold zlY;generalize (s.toList==(⟨#[]⟩:ByteArray).toList)=q;generalize nameP s=p;cases q<;>cases p<;>simp;done)
  |(have e:(decide (k<1)||decide (k>6))=true:=(by simp;omega);unfold zlY;rw[if_pos e])
theorem zfv (r:Req) (hr:r.ok):CallOK prog 43 [.f (.agg (r.enc.map C.d))] (fun x o=>x=[rb (Req.may r)]∧o=[]):=by
 refine zh func43 results43 ntmps43 call43 ?_
 simp only[f43,Option.getD]
 repeat'(first|exact zC|refine za0 ?_|((first|((try refine zaB ?_);apply zaC)|(apply zaE;intro _));(solve|exact(zmV _ _ _ hr.2.2.2.2)|(refine CallOK.le (zmV _ _ _ hr.2.2.2.2) ?_;exact zM)|fail);try case hn=>rfl)|((first|((try refine zaB ?_);apply zaC)|(apply zaE;intro _));(solve|exact(zem _ _)|(refine CallOK.le (zem _ _) ?_;exact zM)|fail);try case hn=>rfl)|(apply zab<;>intro hb)|(apply I;exact zI)|(apply I<;>intro hg))
 simp[Req.may,Bool.and_assoc]
theorem zwM:∀(a b:List UInt8),(Go.Op.bytesLess a b||a==b)= !(Go.Op.bytesLess b a)
 |[],[]=>rfl
 |[],y::ys=>rfl
 |x::xs,[]=>rfl
 |x::xs,y::ys=>by
  have ih:=zwM xs ys
  rw[Go.Op.bytesLess,Go.Op.bytesLess]
  rw[show((x::xs:List UInt8)==y::ys)=(x==y&&xs==ys) from rfl]
  have htri:x<y∨x=y∨y<x:=by
   rcases Nat.lt_trichotomy x.toNat y.toNat with h|h|h
   ·exact .inl (UInt8.lt_iff_toNat_lt.2 h)
   ·exact .inr (.inl (UInt8.toNat_inj.1 h))
   ·exact .inr (.inr (UInt8.lt_iff_toNat_lt.2 h))
  rcases htri with h|h|h
  ·have h2:¬y<x:=UInt8.lt_asymm h
   have h3:(y==x)=false:=by simp;intro e;subst e;exact absurd h (UInt8.lt_irrefl _)
   simp[h,h2,h3]
  ·subst h
   have h2:¬x<x:=UInt8.lt_irrefl _
   simp only[h2,decide_false,Bool.false_or,beq_self_eq_true,Bool.true_and]
   exact ih
  ·have h2:¬x<y:=UInt8.lt_asymm h
   have h3:(x==y)=false:=by simp;intro e;subst e;exact absurd h (UInt8.lt_irrefl _)
   simp[h,h2,h3]
def zsJ (r:Reply):Bool:=decide (r.code<0)||decide (r.code>12)|| !(decide (r.session≥0)&&decide (r.session≤2305843009213693952))||decide (r.ahead<0)||decide (r.ahead>3)||decide ((r.held.length:Int)>4)||r.session==0&&decide ((r.held.length:Int)>0)
theorem zil (r:Reply):zb2 r=(!(zsJ r)&&zbb (zcS r.held) 0 r.held):=by
 have h1:(decide (r.session≥0)&&decide (r.session≤2305843009213693952))= !(decide (r.session<0)||decide (r.session>zcT)):=by
  have hH:zcT=2305843009213693952:=rfl
  rw[Bool.eq_iff_iff];simp[hH]
 unfold zb2 zsJ
 rw[h1]
 generalize decide (r.code<0)=a1
 generalize decide (r.code>12)=a2
 generalize decide (r.session<0)=a3
 generalize decide (r.session>zcT)=a4
 generalize decide (r.ahead<0)=a5
 generalize decide (r.ahead>3)=a6
 generalize decide ((r.held.length:Int)>4)=a7
 generalize (r.session==0)=a8
 generalize decide ((r.held.length:Int)>0)=a9
 generalize zbb (zcS r.held) 0 r.held=a0
 cases a1<;>cases a2<;>cases a3<;>cases a4<;>cases a5<;>cases a6<;>first|rfl|(cases a7<;>cases a8<;>cases a9<;>rfl)
set_option maxHeartbeats 2000000 in
theorem zhc (r:Reply) (hr:zcl r):CallOK prog 84 [.f (.agg r.lent)] (fun x o=>x=[rb (zb2 r)]∧o=[]):=by
 refine zh func84 results84 ntmps84 call84 ?_
 simp only[f84,Option.getD]
 obtain⟨h1,h2⟩:=hr
 have hh:=zem r.session 0
 repeat'(first|exact zC|refine zq0 ?_|refine zx (hh) ?_|(apply zab<;>intro hb)|(apply I;exact zI)|(apply I<;>intro hg))
 ·rw[zil,show zsJ r=true from hb];rfl
 ·have hs:zb2 r=zbb (zcS r.held) 0 r.held:=by rw[zil,show zsJ r=false from hb];rfl
  rw[hs]
  clear hb
  refine zaf (τ:=Nat) (fun i=>⟨(dd::ptq 1::dd::ai i::zdO (zdO [])),[(1,⟨2,[obq 1 [di r.code,di r.session,di r.ahead, .lent r.held.length (zaO r.held)],none,none,none,none]⟩),(4,⟨2,[]⟩)]⟩)
   (fun i=>i≤r.held.length) (fun i=>zbb (zcS r.held) i (r.held.drop i)) (fun i=>r.held.length - i) 0
   (Gh.canon [1] [4] [] zK rfl rfl) (Nat.zero_le _) ?_
  intro i hi0 hF K hK
  rw[List.drop_zero]at hF
  refine zw ?_
  refine zab (fun hlt=> ?_) (fun hge=> ?_)
  ·have hi:i<r.held.length:=by simpa using hlt
   have hat:=zb3 hi
   have hw:=zai hi (by omega)
   rw[zau hi]at hF
   have hnm:=zhA r.held[i].name (h2 _ (List.getElem_mem hi))
   have hhg:=zem r.held[i].token 1
   have hH:(decide (r.held[i].token≥1)&&decide (r.held[i].token≤2305843009213693952))= !(decide (r.held[i].token<1)||decide (r.held[i].token>zcT)):=by
    have hH:zcT=2305843009213693952:=rfl
    rw[Bool.eq_iff_iff];simp[hH]
   cases e0:decide ((i:Int)>0)
   ·have h0:i=0:=by simpa using e0
    have hq:zcS r.held i r.held[i]= !(!nameP r.held[i].name|| !(decide (r.held[i].token≥1)&&decide (r.held[i].token≤2305843009213693952))):=by
     unfold zcS
     have:decide (i>0)=false:=by simpa using e0
     rw[this,Bool.false_and,Bool.or_false,hH,Bool.not_not,Bool.or_assoc]
    have hp:(zaO r.held).drop ((IntKind.i64.wrap ((i:Int) - 1)).toNat*2)=r.held[i].enc++zaO (r.held.drop (i+1)):=by
     rw[←zb3 hi,h0];rfl
    repeat'(first|exact zC|refine zq (I hat (I hp (I e0 (I @zam zca)))) ?_|refine zx (hnm) ?_|refine zx (hhg) ?_|(apply zab<;>intro hb)|(apply I;exact zI)|(apply I<;>intro hg))
    ·rw[hq,hb,if_neg (by simp)]at hF
     rw[←hF]
    ·exact hK _ (i+1) (Gh.canon [1] [] [] (zk hw) rfl rfl) hi (by rw[zau hi,hq,hb];rfl) (by omega)
   ·have h0:0<i:=by simpa using e0
    have hq:zcS r.held i r.held[i]= !(!nameP r.held[i].name|| !(decide (r.held[i].token≥1)&&decide (r.held[i].token≤2305843009213693952))||(Go.Op.bytesLess r.held[i].name.toList (r.held[i - 1]'(by omega)).name.toList||r.held[i].name.toList==(r.held[i - 1]'(by omega)).name.toList)):=by
     rw[zwM]
     unfold zcS zul
     have:decide (i>0)=true:=by simpa using e0
     rw[this,List.getElem?_eq_getElem (by omega),hH,Bool.not_not]
     simp only[Bool.true_and,Option.map_some,Option.getD_some,Bool.or_assoc]
    have hp:=zb3 (show i - 1<r.held.length by omega)
    have hw1:IntKind.i64.wrap ((i:Int) - 1)=((i - 1:Nat):Int):=by rw[wrap64 (by omega) (by omega)];omega
    repeat'(first|exact zC|refine zq (I hat (I hp (I hw1 (I e0 (I @zam zca))))) ?_|refine zx (hnm) ?_|refine zx (hhg) ?_|(apply zab<;>intro hb)|(apply I;exact zI)|(apply I<;>intro hg))
    ·rw[hq,hb,if_neg (by simp)]at hF
     rw[←hF]
    ·exact hK _ (i+1) (Gh.canon [1] [] [] (zk hw) rfl rfl) hi (by rw[zau hi,hq,hb];rfl) (by omega)
  ·have hi:i=r.held.length:=by
    have:¬(i:Int)<r.held.length:=by simpa using hge
    omega
   rw[zb6 hi]at hF
   rw[←hF]
   exact zW0 trivial
theorem zen (m:Memo) (hr:zcl m.reply):CallOK prog 44 [.f (.agg m.lent)] (fun x o=>x=[rb (answerB m)]∧o=[]):=by
 refine zh func44 results44 ntmps44 call44 ?_
 simp only[f44,Option.getD]
 have hh:=zem m.seq 1
 refine zL trivial (I (hh) (zhc m.reply hr)) ?_
 simp[answerB,Bool.and_assoc]
def kR (a:Memo):List Memo→Bool→List Memo
 |[],put=>if put=true then []else [a]
 |m::r,put=>if(m.client==a.client)=true then a::kR a r true else if(!put&&decide (m.client>a.client))=true then a::m::kR a r true else m::kR a r put
abbrev zAD (a:Memo):List C:=[di a.client,di a.seq,di a.reply.code,di a.reply.session,di a.reply.ahead, .d (.sl a.reply.held.length (zaO a.reply.held))]
abbrev zu8 (a:Reply):RF:= .agg [.d (iD a.code), .d (iD a.session), .d (iD a.ahead), .d (.sl a.held.length (zaO a.held))]
def sameI (a b:List Int):Bool:=(a.length==b.length)&&((a.zip b).all fun p=>p.1==p.2)
theorem zmv (a b:List Int) (ha:a.length<2^62) (hb:b.length<2^62):CallOK prog 185 [.f (al a.length (za5 a)), .f (al b.length (za5 b))] (fun r o=>r=[rb (sameI a b)]∧o=[]):=by
 refine zh func185 results185 ntmps185 call185 ?_
 simp only[f185,Option.getD]
 cases hl:((a.length:Int) !=(b.length:Int))
 ·have hle:a.length=b.length:=by simp at hl;omega
  have hs:sameI a b=(a.zip b).all fun p=>p.1==p.2:=by unfold sameI;rw[hle];simp
  rw[hs]
  refine zL0 hl ?_
  refine zaf (τ:=Nat) (fun i=>⟨(al a.length (za5 a)::al b.length (za5 b)::dq3 (ai i::zrx [])),[]⟩)
   (fun i=>i≤a.length) (fun i=>((a.drop i).zip (b.drop i)).all fun p=>p.1==p.2) (fun i=>a.length - i) 0
   (Gh.canon [] [] [] zK rfl rfl) (Nat.zero_le _) ?_
  intro i hi0 hF K hK
  rw[List.drop_zero,List.drop_zero]at hF
  refine zw ?_
  refine zab (fun hlt=> ?_) (fun hge=> ?_)
  ·have hi:i<a.length:=by simpa using hlt
   have hib:i<b.length:=by omega
   have hat:=zce hi
   have hbt:=zce hib
   have hw:=zai hi ha
   have hq:(((a.drop i).zip (b.drop i)).all fun p=>p.1==p.2)=((a[i]==b[i])&&(((a.drop (i+1)).zip (b.drop (i+1))).all fun p=>p.1==p.2)):=by
    rw[List.drop_eq_getElem_cons hi,List.drop_eq_getElem_cons hib,List.zip_cons_cons,List.all_cons]
   rw[hq]at hF
   cases he:a[i] !=b[i]
   ·have he':(a[i]==b[i])=true:=by simpa using he
    rw[he',Bool.true_and]at hq
    refine zL0 (I hat (I hbt (I he (I @zaW zca)))) ?_
    exact hK _ (i+1) (Gh.canon [] [] [] (zk hw) rfl rfl) hi hq.symm (by omega)
   ·have he':(a[i]==b[i])=false:=by simpa using he
    rw[he',Bool.false_and]at hF
    refine zL0 (I hat (I hbt (I he (I @zaW zca)))) ?_
    rw[←hF]
  ·have hi:i=a.length:=by
    have:¬(i:Int)<a.length:=by simpa using hge
    omega
   rw[hi,List.drop_length,List.zip_nil_left,List.all_nil]at hF
   rw[←hF]
   exact zW0 trivial
 ·have hs:sameI a b=false:=by
   have:(a.length==b.length)=false:=by simp at hl⊢;omega
   unfold sameI;rw[this];rfl
  rw[hs]
  exact zW0 hl
def st0:St:=⟨0,0,0,[],[],[]⟩
def rq0:Req:=⟨3,1,1,0, .empty⟩
def st1:St:=⟨0,1,0,[⟨3,1,0⟩],[],[⟨3,1,⟨0,1,0,[]⟩⟩]⟩
def zxn (s:St) (a:Act):St:=(zvY (zng s (s.time+a.time % 16) 60) (zAS (zng s (s.time+a.time % 16) 60) a)).1
def zvQ:List Act→St→St
 |[],s=>s
 |a::r,s=>zvQ r (zxn s a)
structure Mk (s:St) (i:Nat):Prop where
 rt:RightS s
 num:s.num≤i
 tok:s.token≤8*i
abbrev zxo (acts:List Act):St:=zvQ (acts.take 60) st0
abbrev zaa (l:List Int):List D:=l.map uD
def zhj (v:Int) (k:Nat):Int:=IntKind.u8.wrap (v.fdiv (2^(8*(7 - k))))
def zaK (v:Int):List Int:=(List.range 8).map (zhj v)
abbrev zwR (v:Int) (i:Nat):List D:=(List.range 8).map fun k=>uD (if k<i then zhj v k else 0)
theorem zbf {v:Int} (h0:0≤v) (h1:v≤255):IntKind.u8.wrap v=v:=by
 have e:IntKind.u8.wrap v=v % 256:=by
  unfold IntKind.wrap
  simp[IntKind.bits,IntKind.signed]
 rw[e]
 omega
theorem zsP (v:Int) (i:Nat) (hi:i<8):(zwR v i).set i (uD (zhj v i))=zwR v (i+1):=by
 apply List.ext_getElem
 ·simp
 ·intro k h1 h2
  simp only[List.length_set,List.length_map,List.length_range]at h1
  rw[List.getElem_set]
  simp only[List.getElem_map,List.getElem_range]
  split
  ·rename_i e;subst e;rw[if_pos (by omega)]
  ·rename_i e
   by_cases h:k<i
   ·rw[if_pos h,if_pos (by omega)]
   ·rw[if_neg h,if_neg (by omega)]
theorem zjL (v:Int) (h:0≤v∧v≤255):CallOK prog 63 [.f (ai v)] (fun r o=>r=[.one (.own 1 1 (zaa [v]) false),ri 0]∧o=[]):=by
 refine zh func63 results63 ntmps63 call63 ?_
 simp only[f63,Option.getD]
 have h1:decide (v<0)=false:=by simp;omega
 have h2:decide (v>255)=false:=by simp;omega
 have hw:IntKind.u8.wrap v=v:=zbf h.1 h.2
 exact zW0 (I h1 (I h2 hw))
theorem zc8 (v:Int) (h:0≤v∧v<4611686018427387904):CallOK prog 64 [.f (ai v)] (fun r o=>r=[.one (.own 1 8 (zaa (zaK v)) false),ri 0]∧o=[]):=by
 refine zh func64 results64 ntmps64 call64 ?_
 simp only[f64,Option.getD]
 have h1:decide (v<0)=false:=by simp;omega
 have h2:decide (v≥4611686018427387904)=false:=by simp;omega
 refine zL0 (I h1 h2) ?_
 refine zaf (τ:=Nat) (fun i=>⟨(ai v::dq3 (.one (.own ⟨4,1,1⟩ 0 8)::dq9 (ai 8::ai i::zrv []))),[(12,⟨2,[]⟩),(4,⟨2,[none,roq 1 1 (zwR v i)]⟩)]⟩)
  (fun i=>i≤8) (fun _=>()) (fun i=>8 - i) 0
  (Gh.canon [4] [] [] zK rfl rfl) (Nat.zero_le _) ?_
 intro i hi0 hF K hK
 refine zw ?_
 refine zab (fun hlt=> ?_) (fun hge=> ?_)
 ·have hi:i<8:=by simp at hlt;omega
  have w1:IntKind.i64.wrap (7 - (i:Int))=7 - i:=wrap64 (by omega) (by omega)
  have w2:IntKind.i64.wrap (8*(7 - (i:Int)))=((8*(7 - i):Nat):Int):=by rw[wrap64 (by omega) (by omega)];omega
  have w3:¬(((8*(7 - i):Nat):Int)<0):=by omega
  have w4:min (8*(7 - i)) IntKind.i64.bits=8*(7 - i):=by have:IntKind.i64.bits=64:=rfl;omega
  have hw:IntKind.i64.wrap ((i:Int)+1)=((i+1:Nat):Int):=by rw[wrap64 (by omega) (by omega)];omega
  have hset:((zwR v i).map C.d).set i (C.d (D.v (Value.int IntKind.u8 (IntKind.u8.wrap (v.fdiv (2^(8*(7 - i))))))))=(zwR v (i+1)).map C.d:=by
   have:=zsP v i hi
   rw[←this,List.map_set];rfl
  have hle:(i+1≤8)=True:=eq_true (by omega)
  repeat'(first|(with_reducible first|refine zae _ _ ?_|refine zaX ?_|refine zaY ?_)|rw[zaP]|simp only[w1,w2,if_neg w3,Int.toNat_natCast,w4,hset,List.length_range,hle,zY,Int.reduceEq,Int.reduceBEq,Int.reduceBNe,Nat.reduceSub,Nat.reduceEqDiff,Nat.reduceAdd,Nat.reduceMul,Nat.reduceLeDiff,Nat.reduceLT,Nat.reduceBEq,reduceCtorEq]|refine zaG ?_|refine zab (fun hb=> ?_) (fun hb=> ?_)|(refine And.intro ?_ ?_;exact zI)|refine And.intro (fun hg=> ?_) (fun hg=> ?_)|exact zC|fail)
  exact hK _ (i+1) (Gh.canon [4] [] [] (zk hw) rfl rfl) hi rfl (by omega)
 ·have hi:i=8:=by
   have:¬(i:Int)<8:=by simpa using hge
   omega
  subst hi
  refine zL0 trivial ?_
  rfl
theorem zdn (s:ByteArray):s.data.toList.length=s.size:=by rw[Array.length_toList];rfl
abbrev zi3 (s:ByteArray):List D:=s.data.toList.map fun b=>uD b.toNat
def zho (s:ByteArray):List D:=uD s.size::zi3 s
theorem zgv (s:ByteArray):(zho s).length=1+s.size:=by simp[zho,zdn,Nat.add_comm]
theorem zgZ (s:ByteArray) (h:s.size≤255):CallOK prog 111 [.f (ast s)] (fun r o=>r=[.one (.own 1 (1+s.size) (zho s) false),ri 0]∧o=[]):=by
 refine zh func111 results111 ntmps111 call111 ?_
 simp only[f111,Option.getD]
 have h1:decide ((s.size:Int)>255)=false:=by simp;omega
 have hw:IntKind.u8.wrap (s.size:Int)=s.size:=zbf (by omega) (by omega)
 have hle:(1+s.size≤2^47)=True:=eq_true (by omega)
 refine zL0 (I h1 (I hw (I @zdn hle))) ?_
 rfl
theorem zvd (n:Nat) (h:n<2^40):CallOK prog 112 [.f (.one (.d (.v (.slice none 0 0)))), .f (ai n)] (fun r o=>r=[.one (.own 1 0 (ze1 [.int .u8 0] n) false)]∧o=[]):=by
 refine zjh zco mixed (T:=Ty) (n:=27) func112 (c:=f112.body.getD .skip) rfl results112 ntmps112 call112
  (fun _=>⟨(openG 27 [.f (.one (.d (.v (.slice none 0 0)))), .f (ai n)]).v.set 0 (.one (.gap ⟨0,1,0⟩ 0 0 0)),[(0,⟨1,[none,some {e:=0,var:=false,fz:=false,sz:=1,cells:=[]}]⟩)]⟩)
  (fun _=>True) (fun cx a w hh=>⟨0,trivial,Gh.nilG (i:=0) (s:=0) (sz:=1) rfl cx a w hh⟩) ?_
 intro k _
 simp only[f112,Option.getD]
 have h1:decide ((n:Int)<0)=false:=by simp
 have hw:IntKind.i64.wrap ((n:Int) - IntKind.i64.wrap (((0:Nat):Int) - ((0:Nat):Int)))=n:=by
  rw[show IntKind.i64.wrap (((0:Nat):Int) - ((0:Nat):Int))=0 from by decide,Int.sub_zero,wrap64 (by omega) (by omega)]
 cases h2:decide ((n:Int)>0)
 ·have:n=0:=by simp at h2;omega
  subst this
  refine zL0 (I h1 (I hw h2)) ?_
  rfl
 ·have h3:0<n:=by simp at h2;omega
  have hc1:(0≤(n:Int)∧(n:Int)<2^62∧0<n∧n≤2^47)=True:=eq_true (by omega)
  exact zW0 (I h1 (I hw (I h2 (I hc1 @Int.toNat_natCast))))
def zve (ls:List (List D)) (i:Nat):List D:=if i=0 then ze1 [.int .u8 0] ls.flatten.length else(ls.take i).flatten
theorem zqQ (ls:List (List D)) (i:Nat):(zve ls i).take (ls.take i).flatten.length=(ls.take i).flatten:=by
 unfold zve
 split
 ·rename_i h;subst h;simp
 ·rw[List.take_length]
theorem zgw {ls:List (List D)} {i:Nat} (hi:i<ls.length):(ls.take (i+1)).flatten=(ls.take i).flatten++ls[i]:=by
 rw[List.take_succ_eq_append_getElem hi,List.flatten_append];simp
theorem zm2 {ls:List (List D)} {m:Nat} (hs:∀l∈ls,l.length≤m):∀i,(ls.take i).flatten.length≤i*m
 |0=>by simp
 |i+1=>by
  by_cases hi:i<ls.length
  ·rw[zgw hi,List.length_append]
   have:=zm2 hs i
   have:=hs _ (List.getElem_mem hi)
   rw[Nat.add_mul];omega
  ·have h1:ls.take (i+1)=ls:=List.take_of_length_le (by omega)
   have h2:ls.take i=ls:=List.take_of_length_le (by omega)
   rw[h1,←h2]
   have:=zm2 hs i
   rw[Nat.add_mul];omega
theorem zqR {ls:List (List D)} {i:Nat} (hi:i<ls.length):zve ls (i+1)=(ls.take i).flatten++ls[i]:=by
 unfold zve
 rw[if_neg (by omega),zgw hi]
theorem zsQ (ls:List (List D)):zve ls ls.length=ls.flatten:=by
 unfold zve
 cases ls with
 |nil=>rfl
 |cons a l=>rw[if_neg (by simp),List.take_length]
abbrev zry (ls:List (List D)):List D:=ls.map fun l=> .sl l.length l
theorem zt3 {ls:List (List D)} {i:Nat} (hi:i<ls.length):(zry ls).drop i= .sl ls[i].length ls[i]::zry (ls.drop (i+1)):=by
 rw[←List.map_drop,List.drop_eq_getElem_cons hi];rfl
theorem zqS {ls:List (List D)}:(zry ls).length=ls.length:=by simp
theorem ziB (ls:List (List D)) (hl:ls.length<2^10) (hs:∀l∈ls,l.length≤2^12):
  CallOK prog 66 [.f (al ls.length (zry ls))] (fun r o=>r=[.one (.own 1 ls.flatten.length ls.flatten false)]∧o=[]):=by
 refine zh func66 results66 ntmps66 call66 ?_
 simp only[f66,Option.getD]
 have hfl:=zm2 hs
 refine zL0 trivial ?_
 refine zaf (τ:=Nat) (fun i=>⟨(al ls.length (zry ls)::dq2 (ai (ls.take i).flatten.length::dq5 (al ls.length (zry ls)::ai ls.length::ai i::zvF []))),[(5,⟨2,[]⟩)]⟩)
  (fun i=>i≤ls.length) (fun _=>()) (fun i=>ls.length - i) 0
  (Gh.canon [] [5] [] (zk (I @List.take_zero.{0} (I @List.flatten_nil.{0} @List.length_nil.{0}))) rfl rfl) (Nat.zero_le _) ?_
 intro i hi0 hF K hK
 refine zw ?_
 refine zab (fun hlt=> ?_) (fun hge=> ?_)
 ·have hi:i<ls.length:=by simpa using hlt
  have hat:=zt3 hi
  have hw:=zai hi (by omega)
  have hb:=hfl i
  have hb2:=hfl (i+1)
  have hil:i*2^12≤2^10*2^12:=Nat.mul_le_mul_right _ (by omega)
  have hil2:(i+1)*2^12≤2^10*2^12:=Nat.mul_le_mul_right _ (by omega)
  have hfs:(ls.take (i+1)).flatten.length=(ls.take i).flatten.length+ls[i].length:=by rw[zgw hi,List.length_append]
  have hws:IntKind.i64.wrap (((ls.take i).flatten.length:Int)+(ls[i].length:Int))=((ls.take (i+1)).flatten.length:Int):=by rw[wrap64 (by omega) (by omega),hfs];omega
  have hn:decide (((ls.take (i+1)).flatten.length:Int)<0)=false:=by simp
  refine zL0 (I hat (I hws (I hn @zqS))) ?_
  exact hK _ (i+1) (Gh.canon [] [] [] (zk hw) rfl rfl) hi rfl (by omega)
 ·have hi:i=ls.length:=by
   have:¬(i:Int)<ls.length:=by simpa using hge
   omega
  subst hi
  have hb:=hfl ls.length
  have hil:ls.length*2^12≤2^10*2^12:=Nat.mul_le_mul_right _ (by omega)
  rw[List.take_length]at*
  have hgr:=zvd ls.flatten.length (by omega)
  clear hK
  refine zL trivial (hgr) ?_
  refine zaf (τ:=Nat) (fun i=>⟨(dq6 (.one (.own ⟨6,1,1⟩ 0 (ls.take i).flatten.length)::zrw (al ls.length (zry ls)::ai ls.length::ai i::dq8 []))),[(5,⟨2,[]⟩),(24,⟨2,[]⟩),(6,⟨2,[none,roq 1 1 (zve ls i)]⟩),(8,⟨2,[]⟩),(33,⟨2,[]⟩)]⟩)
   (fun i=>i≤ls.length) (fun _=>()) (fun i=>ls.length - i) 0
   (Gh.canon [6] [8,33] [] (zk (I @List.take_zero.{0} (I @List.flatten_nil.{0} @List.length_nil.{0}))) rfl rfl) (Nat.zero_le _) ?_
  intro i hi0 hF K hK
  refine zw ?_
  refine zab (fun hlt=> ?_) (fun hge=> ?_)
  ·have hi:i<ls.length:=by simpa using hlt
   have hat:=zt3 hi
   have hw:=zai hi (by omega)
   have hb:=hfl i
   have hb2:=hfl (i+1)
   have hil:i*2^12≤2^10*2^12:=Nat.mul_le_mul_right _ (by omega)
   have hil2:(i+1)*2^12≤2^10*2^12:=Nat.mul_le_mul_right _ (by omega)
   have hfs:(ls.take (i+1)).flatten.length=(ls.take i).flatten.length+ls[i].length:=by rw[zgw hi,List.length_append]
   have hle:((ls.take i).flatten.length+ls[i].length≤2^47)=True:=eq_true (by omega)
   refine zL0 (I hat (I @zqS (I @zAY (I @zqQ (I hle @zbq))))) ?_
   exact hK _ (i+1) (Gh.canon [6] [] [] (zk (I hw hfs)) rfl (by rw[zqR hi];rfl)) hi rfl (by omega)
  ·have hi:i=ls.length:=by
    have:¬(i:Int)<ls.length:=by simpa using hge
    omega
   subst hi
   refine zL0 trivial ?_
   rw[List.take_length,zsQ]
theorem zcj (n:Int):(zaa (zaK n)).length=8:=rfl
theorem ziC {l:List Int} {i:Nat} (hi:i<l.length):(zaa l).drop i=uD (l.getD i 0)::zaa (l.drop (i+1)):=by
 rw[←List.map_drop,List.drop_eq_getElem_cons hi,List.getD_eq_getElem?_getD,List.getElem?_eq_getElem hi];rfl
theorem zba {l:List Int}:(zaa l).length=l.length:=by simp
end Go.Proofs.YtliimajkpggbhaaGreat
