import Derived.Test.YtbpmcjeeeiffhaaGreatVA
namespace Go.Proofs.YtbpmcjeeeiffhaaGreat
open Go.Pk
set_option maxRecDepth 100000
set_option linter.unusedSimpArgs false
set_option linter.unusedVariables false
structure RightS (s:St):Prop where
 time:0≤s.time∧s.time≤zdu
 num:0≤s.num∧s.num≤zdu
 token:0≤s.token∧s.token≤zdu
 ss:SS s.sess
 sok:∀x∈s.sess,zfb x=true∧x.num≤s.num
 snd:s.sess.Pairwise fun a b=>a.num≠b.num
 sl:s.sess.length≤5
 ls:SL s.locks
 lok:∀k∈s.locks,zpX k=true∧k.token≤s.token∧lineB k.line=true∧hasI k.line k.holder=false
 lnd:s.locks.Pairwise fun a b=>a.token≠b.token
 ll:s.locks.length≤4
 ms:SM s.memos
 mok:∀m∈s.memos,answerB m=true
 seat:∀k∈s.locks,(zbx s.sess k.holder).isSome=true∧∀c∈k.line,(zbx s.sess c).isSome=true
theorem zdh {α:Type} {r:α→α→Prop} (ht:∀a b c,r a b→r b c→r a c):∀{l:List α},(∀j (hj:j<l.length),0<j→r (l[j - 1]'(by omega)) l[j])→l.Pairwise r
 |[],_=>List.Pairwise.nil
 |[x],_=>by simp
 |x::y::l,h=>by
  have h1:r x y:=h 1 (by simp) (by decide)
  have ih:(y::l).Pairwise r:=zdh ht fun j hj h0=>by
   have:=h (j+1) (by simpa using hj) (by omega)
   obtain⟨k,rfl⟩:∃k,j=k+1:=⟨j - 1,by omega⟩
   simpa using this
  refine List.pairwise_cons.2 ⟨fun z hz=> ?_,ih⟩
  rcases List.mem_cons.1 hz with rfl|hz
  ·exact h1
  ·exact ht _ _ _ h1 ((List.pairwise_cons.1 ih).1 z hz)
theorem zd7 {α:Type} {r:α→α→Prop} {l:List α} (h:l.Pairwise r) (j:Nat) (hj:j<l.length) (h0:0<j):r (l[j - 1]'(by omega)) l[j]:=
 List.pairwise_iff_getElem.1 h (j - 1) j (by omega) hj (by omega)
theorem zeG {α:Type} {l:List α} {i:Nat} {p:α→Bool} (hi:i<l.length):(l.take i).any p=false↔∀j (hj:j<l.length),j<i→p l[j]=false:=by
 rw[List.any_eq_false]
 constructor
 ·intro h j hj hji
  have hm:l[j]∈l.take i:=by
   rw[List.mem_take_iff_getElem]
   exact⟨j,by omega,rfl⟩
  simpa using h _ hm
 ·intro h x hx
  rw[List.mem_take_iff_getElem]at hx
  obtain⟨j,hj,rfl⟩:=hx
  simp[h j (by omega) (by omega)]
theorem zj3 {l:List Sess}:sessB l=true↔l.length≤5∧(∀x∈l,zfb x=true)∧SS l∧l.Pairwise fun a b=>a.num≠b.num:=by
 unfold sessB
 rw[Bool.and_eq_true,zcD]
 simp only[Nat.zero_add,Bool.not_eq_true',decide_eq_false_iff_not]
 constructor
 ·rintro⟨h1,h2⟩
  have q:∀j (hj:j<l.length),zfb l[j]=true∧(0<j→zm6 l j<l[j].client)∧(∀k (hk:k<l.length),k<j→l[k].num≠l[j].num):=by
   intro j hj
   have:=h2 j hj
   unfold zfl at this
   simp only[Bool.and_eq_true,Bool.not_eq_true',Bool.or_eq_false_iff,Bool.and_eq_false_iff,decide_eq_false_iff_not]at this
   obtain⟨a,b,c⟩:=this
   refine⟨a,fun h0=> ?_,fun k hk hkj=> ?_⟩
   ·rcases b with b|b
    ·omega
    ·omega
   ·have:=(zeG hj).1 c k hk hkj
    simpa using this
  refine⟨by omega,fun x hx=> ?_, ?_, ?_⟩
  ·obtain⟨j,hj,rfl⟩:=List.getElem_of_mem hx
   exact(q j hj).1
  ·refine zdh (fun a b c h1 h2=>by omega) fun j hj h0=> ?_
   have:=(q j hj).2.1 h0
   unfold zm6 at this
   rw[List.getElem?_eq_getElem (by omega)]at this
   simpa using this
  ·rw[List.pairwise_iff_getElem]
   intro i j hi hj hij
   exact(q j hj).2.2 i hi hij
 ·rintro⟨h1,h2,h3,h4⟩
  refine⟨by omega,fun j hj=> ?_⟩
  unfold zfl
  simp only[Bool.and_eq_true,Bool.not_eq_true',Bool.or_eq_false_iff,Bool.and_eq_false_iff,decide_eq_false_iff_not]
  refine⟨h2 _ (List.getElem_mem hj), ?_, ?_⟩
  ·by_cases h0:0<j
   ·right
    have:=zd7 h3 j hj h0
    unfold zm6
    rw[List.getElem?_eq_getElem (by omega)]
    simpa using this
   ·left;omega
  ·exact(zeG hj).2 fun k hk hkj=>by
    have:=List.pairwise_iff_getElem.1 h4 k j hk hj hkj
    simpa using this
theorem zj4 {l:List Int}:lineB l=true↔l.length≤3∧(∀c∈l,isClient c=true)∧l.Nodup:=by
 unfold lineB
 rw[Bool.and_eq_true,zcD]
 simp only[Nat.zero_add,decide_eq_true_eq]
 constructor
 ·rintro⟨h1,h2⟩
  have q:∀j (hj:j<l.length),isClient l[j]=true∧(∀k (hk:k<l.length),k<j→l[k]≠l[j]):=by
   intro j hj
   have:=h1 j hj
   unfold zj5 at this
   simp only[Bool.not_eq_true',Bool.or_eq_false_iff,Bool.not_eq_false']at this
   refine⟨this.1,fun k hk hkj=> ?_⟩
   have h3:=(zeG hj).1 this.2 k hk hkj
   have h4:¬l[j]=l[k]:=by simpa using h3
   exact fun h=>h4 h.symm
  refine⟨by omega,fun x hx=> ?_, ?_⟩
  ·obtain⟨j,hj,rfl⟩:=List.getElem_of_mem hx
   exact(q j hj).1
  ·unfold List.Nodup
   rw[List.pairwise_iff_getElem]
   intro i j hi hj hij
   exact(q j hj).2 i hi hij
 ·rintro⟨h1,h2,h3⟩
  refine⟨fun j hj=> ?_,by omega⟩
  unfold zj5
  simp only[Bool.not_eq_true',Bool.or_eq_false_iff,Bool.not_eq_false']
  refine⟨h2 _ (List.getElem_mem hj), ?_⟩
  exact(zeG hj).2 fun k hk hkj=>by
   unfold List.Nodup at h3
   have:=List.pairwise_iff_getElem.1 h3 k j hk hj hkj
   simpa using fun h=>this h.symm
theorem zn7 {l:List Lk}:lockB l=true↔l.length≤4∧(∀k∈l,zpX k=true∧lineB k.line=true∧hasI k.line k.holder=false)∧SL l∧l.Pairwise fun a b=>a.token≠b.token:=by
 unfold lockB
 rw[Bool.and_eq_true,zcD]
 simp only[Nat.zero_add,decide_eq_true_eq]
 constructor
 ·rintro⟨h1,h2⟩
  have q:∀j (hj:j<l.length),(zpX l[j]=true∧lineB l[j].line=true∧hasI l[j].line l[j].holder=false)∧(0<j→zj9 (zm7 l j) l[j].name=true)∧(∀k (hk:k<l.length),k<j→l[k].token≠l[j].token):=by
   intro j hj
   have:=h1 j hj
   unfold zfz at this
   simp only[Bool.and_eq_true,Bool.not_eq_true',Bool.or_eq_false_iff,Bool.and_eq_false_iff,decide_eq_false_iff_not,Bool.not_eq_false']at this
   obtain⟨⟨a,⟨b1,b2⟩,b3⟩,c⟩:=this
   refine⟨⟨a,b1,b2⟩,fun h0=> ?_,fun k hk hkj=> ?_⟩
   ·rcases b3 with b|b
    ·omega
    ·exact b
   ·have:=(zeG hj).1 c k hk hkj
    simpa using this
  refine⟨by omega,fun x hx=> ?_, ?_, ?_⟩
  ·obtain⟨j,hj,rfl⟩:=List.getElem_of_mem hx
   exact(q j hj).1
  ·refine zdh (r:=fun x y:Lk=>zj9 x.name y.name=true) (fun a b c h1 h2=>zi6 h1 h2) fun j hj h0=> ?_
   have:=(q j hj).2.1 h0
   unfold zm7 at this
   rw[List.getElem?_eq_getElem (by omega)]at this
   simpa using this
  ·rw[List.pairwise_iff_getElem]
   intro i j hi hj hij
   exact(q j hj).2.2 i hi hij
 ·rintro⟨h1,h2,h3,h4⟩
  refine⟨fun j hj=> ?_,by omega⟩
  unfold zfz
  simp only[Bool.and_eq_true,Bool.not_eq_true',Bool.or_eq_false_iff,Bool.and_eq_false_iff,decide_eq_false_iff_not,Bool.not_eq_false']
  obtain⟨a,b,c⟩:=h2 _ (List.getElem_mem hj)
  refine⟨⟨a,⟨b,c⟩, ?_⟩, ?_⟩
  ·by_cases h0:0<j
   ·right
    have:=zd7 h3 j hj h0
    unfold zm7
    rw[List.getElem?_eq_getElem (by omega)]
    simpa using this
   ·left;omega
  ·exact(zeG hj).2 fun k hk hkj=>by
    have:=List.pairwise_iff_getElem.1 h4 k j hk hj hkj
    simpa using this
theorem zn8 {l:List Memo}:memoB l=true↔(∀m∈l,answerB m=true)∧SM l:=by
 unfold memoB
 rw[zcD]
 simp only[Nat.zero_add]
 constructor
 ·intro h1
  have q:∀j (hj:j<l.length),answerB l[j]=true∧(0<j→zm9 l j<l[j].client):=by
   intro j hj
   have:=h1 j hj
   unfold zfA at this
   simp only[Bool.not_eq_true',Bool.or_eq_false_iff,Bool.and_eq_false_iff,decide_eq_false_iff_not,Bool.not_eq_false']at this
   refine⟨this.1,fun h0=> ?_⟩
   rcases this.2 with b|b
   ·omega
   ·omega
  refine⟨fun x hx=> ?_, ?_⟩
  ·obtain⟨j,hj,rfl⟩:=List.getElem_of_mem hx
   exact(q j hj).1
  ·refine zdh (fun a b c h1 h2=>by omega) fun j hj h0=> ?_
   have:=(q j hj).2 h0
   unfold zm9 at this
   rw[List.getElem?_eq_getElem (by omega)]at this
   simpa using this
 ·rintro⟨h2,h3⟩ j hj
  unfold zfA
  simp only[Bool.not_eq_true',Bool.or_eq_false_iff,Bool.and_eq_false_iff,decide_eq_false_iff_not,Bool.not_eq_false']
  refine⟨h2 _ (List.getElem_mem hj), ?_⟩
  by_cases h0:0<j
  ·right
   have:=zd7 h3 j hj h0
   unfold zm9
   rw[List.getElem?_eq_getElem (by omega)]
   simpa using this
  ·left;omega
theorem zbP {s:St}:zbn s=true↔RightS s:=by
 unfold zbn zd8 within
 simp only[Bool.and_eq_true,decide_eq_true_eq,zj3,zn7,zn8,List.all_eq_true,List.mem_cons,forall_eq_or_imp]
 constructor
 ·rintro⟨⟨⟨⟨⟨⟨⟨⟨h1,h2⟩,h3⟩,a,b,c,d⟩,e,f,g,h⟩,i,j⟩,k⟩,l⟩,m⟩
  exact⟨h1,h2,h3,c,fun x hx=>⟨b x hx,k x hx⟩,d,a,g,fun k hk=>⟨(f k hk).1,l k hk,(f k hk).2⟩,h,e,j,i,m⟩
 ·intro h
  exact⟨⟨⟨⟨⟨⟨⟨⟨h.time,h.num⟩,h.token⟩,h.sl,fun x hx=>(h.sok x hx).1,h.ss,h.snd⟩,h.ll,fun k hk=>⟨(h.lok k hk).1,(h.lok k hk).2.2⟩,h.ls,h.lnd⟩,h.mok,h.ms⟩,fun x hx=>(h.sok x hx).2⟩,fun k hk=>(h.lok k hk).2.1⟩,h.seat⟩
theorem zrq {l:List Memo}:SM l↔(l.map Memo.client).Pairwise (·<·):=by unfold SM;rw[List.pairwise_map]
theorem zl3 {k:Lk}:zpX k=true↔nameP k.name=true∧(0≤k.holder∧k.holder<8)∧1≤k.token∧k.token≤zdu:=by
 unfold zpX
 simp only[Bool.and_eq_true,Bool.not_eq_true',decide_eq_false_iff_not]
 constructor
 ·rintro⟨⟨⟨⟨a,b⟩,c⟩,d⟩,e⟩;exact⟨a,⟨by omega,by omega⟩,by omega,by omega⟩
 ·rintro⟨a,⟨b,c⟩,d,e⟩;exact⟨⟨⟨⟨a,by omega⟩,by omega⟩,by omega⟩,by omega⟩
theorem zgk {x:Sess}:zfb x=true↔isClient x.client=true∧(1≤x.num∧x.num≤zdu)∧0≤x.renewed∧x.renewed≤zdu:=by
 unfold zfb
 simp only[Bool.and_eq_true,Bool.not_eq_true',decide_eq_false_iff_not]
 constructor
 ·rintro⟨⟨⟨⟨a,b⟩,c⟩,d⟩,e⟩;exact⟨a,⟨by omega,by omega⟩,by omega,by omega⟩
 ·rintro⟨a,⟨b,c⟩,d,e⟩;exact⟨⟨⟨⟨a,by omega⟩,by omega⟩,by omega⟩,by omega⟩
structure DoneR (s t:St) (a:Reply):Prop where
 rt:RightS t
 tok:s.token≤t.token∧t.token≤s.token+4
 num:s.num≤t.num∧t.num≤s.num+1
 time:t.time=s.time
 code:0≤a.code∧a.code≤12
def zxi {α:Type} (p:α→Bool) (x:α):List α→List α
 |[]=>[x]
 |y::r=>if p y=true then x::y::r else y::zxi p x r
def zt8 (c now:Int) (y:Sess):Sess:=if(y.client==c)=true then⟨y.client,y.num,max y.renewed now⟩else y
def zxx (l:List Sess) (c now:Int) (i:Nat):List Sess:=(l.take i).map (zt8 c now)++l.drop i
def zbS (r:Reply):Prop:=r.held.length<2^30∧∀g∈r.held,g.name.size<2^62
theorem zdR (r:Reply) (hr:zbS r):CallOK Tryz.prog 128 [.f (.agg r.lent)] (fun x o=>x=[rb (zbz r)]∧o=[]):=by
 refine zae zam mixed (T:=Ty) (n:=87) Tryz.func128 (c:=Tryz.f128.body.getD .skip) rfl Tryz.results128 Tryz.ntmps128 Tryz.call128 ?_
 simp only[Tryz.f128,Option.getD]
 obtain⟨h1,h2⟩:=hr
 cases hA:(decide (r.code<0)||decide (r.code>12)||decide (r.session<0)||decide (r.session>2305843009213693952)||decide (r.ahead<0)||decide (r.ahead>3))
 ·cases hB:(decide ((r.held.length:Int)>4)||(r.session==0)&&decide ((r.held.length:Int)>0))
  ·have hs:zbz r=za0 (zcA r.held) 0 r.held:=by
    unfold zbz
    rw[show(decide (r.code<0)||decide (r.code>12)||decide (r.session<0)||decide (r.session>zdu)||decide (r.ahead<0)||decide (r.ahead>3))=false from hA,hB]
    rfl
   rw[hs]
   repeat'(first|refine zq (I hA hB) ?_|exact zd (I hA hB)|(refine zaa ?_ ?_<;>intro hb)|(refine And.intro ?_ ?_;exact zI)|(refine And.intro ?_ ?_<;>intro hg)|exact zC|fail)
   refine zah (τ:=Nat) (fun i=>⟨[dd, .one (.ptr ⟨1,0,1⟩ 0),dd,dd,dd,dd,dd,dd,dd,dd,dd,dd,dd,dd,dd,dd,dd,dd,dd,dd,dd,dd,dd,dd,dd,dd,dd,dd,dd,dd,dd,dd,dd,dd,dd,dd,dd,dd,dd,dd,dd,dd,dd,dd,dd,dd,dd,dd,dd,al r.held.length (zaO r.held),ai r.held.length,ai i,dd,dd,dd,dd,dd,dd,dd,dd,dd,dd,dd,dd,dd,dd,dd,dd,dd,dd,dd,dd,dd,dd,dd,dd,dd,dd,dd,dd,dd,dd,dd,dd,dd,dd,dd],[(1,{next:=2,l:=[some {e:=1,var:=true,fz:=false,sz:=0,cells:=[di r.code,di r.session,di r.ahead, .lent r.held.length (zaO r.held)]},none,none,none,none]}),(4,⟨2,[]⟩)]⟩)
    (fun i=>i≤r.held.length) (fun i=>za0 (zcA r.held) i (r.held.drop i)) (fun i=>r.held.length - i) 0
    (Gh.canon [1] [4] [] zK rfl rfl) (Nat.zero_le _) ?_
   intro i hi0 hF K hK
   rw[List.drop_zero]at hF
   refine zw ?_
   refine zaa (fun hlt=> ?_) (fun hge=> ?_)
   ·have hi:i<r.held.length:=by simpa using hlt
    have hat:=zbL hi
    have hw:=zai hi (by omega)
    rw[zau hi]at hF
    have hnm:=zpo r.held[i].name (h2 _ (List.getElem_mem hi))
    cases e0:decide ((i:Int)>0)
    ·have h0:i=0:=by simpa using e0
     have hq:zcA r.held i r.held[i]= !(!nameP r.held[i].name||decide (r.held[i].token<1)||decide (r.held[i].token>2305843009213693952)):=by
      unfold zcA
      have:decide (i>0)=false:=by simpa using e0
      rw[this,Bool.false_and,Bool.or_false]
     have hp:(zaO r.held).drop ((IntKind.i64.wrap ((i:Int) - 1)).toNat*2)=r.held[i].enc++zaO (r.held.drop (i+1)):=by
      rw[←zbL hi,h0];rfl
     repeat'(first|refine zq (I hat (I hp (I e0 (I @zaw zca)))) ?_|exact zd (I hat (I hp (I e0 (I @zaw zca))))|refine zc (hnm) ?_|refine zg (hnm) ?_|(refine zaa ?_ ?_<;>intro hb)|(refine And.intro ?_ ?_;exact zI)|(refine And.intro ?_ ?_<;>intro hg)|exact zC|fail)
     ·rw[hq,hb,if_neg (by simp)]at hF
      rw[←hF]
     ·exact hK _ (i+1) (Gh.canon [1] [] [] (zk hw) rfl rfl) hi (by rw[zau hi,hq,hb];rfl) (by omega)
    ·have h0:0<i:=by simpa using e0
     have hq:zcA r.held i r.held[i]= !(!nameP r.held[i].name||decide (r.held[i].token<1)||decide (r.held[i].token>2305843009213693952)|| !(zj9 (r.held[i - 1]'(by omega)).name r.held[i].name)):=by
      unfold zcA zsa
      have:decide (i>0)=true:=by simpa using e0
      rw[this,List.getElem?_eq_getElem (by omega)]
      simp only[Bool.true_and,Option.map_some,Option.getD_some]
     have hp:=zbL (show i - 1<r.held.length by omega)
     have hw1:IntKind.i64.wrap ((i:Int) - 1)=((i - 1:Nat):Int):=by rw[wrap64 (by omega) (by omega)];omega
     repeat'(first|refine zq (I hat (I hp (I hw1 (I e0 (I @zaw zca))))) ?_|exact zd (I hat (I hp (I hw1 (I e0 (I @zaw zca)))))|refine zc (hnm) ?_|refine zg (hnm) ?_|(refine zaa ?_ ?_<;>intro hb)|(refine And.intro ?_ ?_;exact zI)|(refine And.intro ?_ ?_<;>intro hg)|exact zC|fail)
     ·rw[hq,hb,if_neg (by simp)]at hF
      rw[←hF]
     ·exact hK _ (i+1) (Gh.canon [1] [] [] (zk hw) rfl rfl) hi (by rw[zau hi,hq,hb];rfl) (by omega)
   ·have hi:i=r.held.length:=by
     have:¬(i:Int)<r.held.length:=by simpa using hge
     omega
    rw[zbQ hi]at hF
    rw[←hF]
    repeat'(first|refine zq0 ?_|exact zd0|(refine zaa ?_ ?_<;>intro hb)|(refine And.intro ?_ ?_;exact zI)|(refine And.intro ?_ ?_<;>intro hg)|exact zC|fail)
  ·have hs:zbz r=false:=by
    unfold zbz
    rw[hB,Bool.not_true,Bool.and_false,Bool.false_and]
   rw[hs]
   repeat'(first|refine zq (I hA hB) ?_|exact zd (I hA hB)|(refine zaa ?_ ?_<;>intro hb)|(refine And.intro ?_ ?_;exact zI)|(refine And.intro ?_ ?_<;>intro hg)|exact zC|fail)
 ·have hs:zbz r=false:=by
   unfold zbz
   rw[show(decide (r.code<0)||decide (r.code>12)||decide (r.session<0)||decide (r.session>zdu)||decide (r.ahead<0)||decide (r.ahead>3))=true from hA]
   rfl
  rw[hs]
  repeat'(first|refine zq hA ?_|exact zd hA|(refine zaa ?_ ?_<;>intro hb)|(refine And.intro ?_ ?_;exact zI)|(refine And.intro ?_ ?_<;>intro hg)|exact zC|fail)
theorem zex (m:Memo) (hr:zbS m.reply):CallOK Tryz.prog 76 [.f (.agg m.lent)] (fun x o=>x=[rb (answerB m)]∧o=[]):=by
 refine zae zam mixed (T:=Ty) (n:=26) Tryz.func76 (c:=Tryz.f76.body.getD .skip) rfl Tryz.results76 Tryz.ntmps76 Tryz.call76 ?_
 simp only[Tryz.f76,Option.getD]
 repeat'(first|refine zq0 ?_|exact zd0|refine zc (zdR m.reply hr) ?_|refine zg (zdR m.reply hr) ?_|(refine zaa ?_ ?_<;>intro hb)|(refine And.intro ?_ ?_;exact zI)|(refine And.intro ?_ ?_<;>intro hg)|exact zC|fail)
 rfl
def zt4:Memo:=⟨0,0,⟨0,0,0,[]⟩⟩
theorem zkZ (l:List Memo) (hl:l.length<2^30) (hll:∀m∈l,zbS m.reply):CallOK Tryz.prog 74 [.f (al l.length (zaG l))] (fun r o=>r=[rb (memoB l)]∧o=[]):=by
 refine zae zam mixed (T:=Ty) (n:=37) Tryz.func74 (c:=Tryz.f74.body.getD .skip) rfl Tryz.results74 Tryz.ntmps74 Tryz.call74 ?_
 simp only[Tryz.f74,Option.getD]
 repeat'(first|refine zq @zaC ?_|exact zd @zaC|(refine zaa ?_ ?_<;>intro hb)|(refine And.intro ?_ ?_;exact zI)|(refine And.intro ?_ ?_<;>intro hg)|exact zC|fail)
 refine zah (τ:=Nat) (fun i=>⟨[al l.length (zaG l),dd,dd,dd,dd,al l.length (zaG l),ai l.length,ai i,dd,dd,dd,dd,dd,dd,dd,dd,dd,dd,dd,dd,dd,dd,dd,dd,dd,dd,dd,dd,dd,dd,dd,dd,dd,dd,dd,dd,dd],[(4,⟨2,[]⟩)]⟩)
  (fun i=>i≤l.length) (fun i=>za0 (zfA l) i (l.drop i)) (fun i=>l.length - i) 0
  (Gh.canon [] [4] [] zK rfl rfl) (Nat.zero_le _) ?_
 intro i hi0 hF K hK
 rw[List.drop_zero]at hF
 refine zw ?_
 refine zaa (fun hlt=> ?_) (fun hge=> ?_)
 ·have hi:i<l.length:=by simpa using hlt
  have hat:=zb0 hi
  have hw:=zai hi (by omega)
  rw[zau hi]at hF
  have hma:=zex l[i] (hll _ (List.getElem_mem hi))
  cases e0:decide ((i:Int)>0)
  ·have h0:i=0:=by simpa using e0
   have hq:zfA l i l[i]= !(!answerB l[i]):=by
    unfold zfA
    have:decide (i>0)=false:=by simpa using e0
    rw[this,Bool.false_and,Bool.or_false]
   have hp:(zaG l).drop ((IntKind.i64.wrap ((i:Int) - 1)).toNat*6)=l[i].enc++zaG (l.drop (i+1)):=by
    rw[←zb0 hi,h0];rfl
   repeat'(first|refine zq (I hat (I hp (I e0 (I @zaC zca)))) ?_|exact zd (I hat (I hp (I e0 (I @zaC zca))))|refine zc (hma) ?_|refine zg (hma) ?_|(refine zaa ?_ ?_<;>intro hb)|(refine And.intro ?_ ?_;exact zI)|(refine And.intro ?_ ?_<;>intro hg)|exact zC|fail)
   ·rw[hq,hb,if_neg (by simp)]at hF
    unfold memoB
    rw[←hF]
   ·exact hK _ (i+1) (Gh.canon [] [] [] (zk hw) rfl rfl) hi (by rw[zau hi,hq,hb];rfl) (by omega)
  ·have h0:0<i:=by simpa using e0
   have hq:zfA l i l[i]= !(!answerB l[i]||decide ((l[i - 1]'(by omega)).client≥l[i].client)):=by
    unfold zfA zm9
    have:decide (i>0)=true:=by simpa using e0
    rw[this,List.getElem?_eq_getElem (by omega)]
    simp only[Bool.true_and,Option.map_some,Option.getD_some]
   have hp:=zb0 (show i - 1<l.length by omega)
   have hw1:IntKind.i64.wrap ((i:Int) - 1)=((i - 1:Nat):Int):=by rw[wrap64 (by omega) (by omega)];omega
   repeat'(first|refine zq (I hat (I hp (I hw1 (I e0 (I @zaC zca))))) ?_|exact zd (I hat (I hp (I hw1 (I e0 (I @zaC zca)))))|refine zc (hma) ?_|refine zg (hma) ?_|(refine zaa ?_ ?_<;>intro hb)|(refine And.intro ?_ ?_;exact zI)|(refine And.intro ?_ ?_<;>intro hg)|exact zC|fail)
   ·rw[hq,hb,if_neg (by simp)]at hF
    unfold memoB
    rw[←hF]
   ·exact hK _ (i+1) (Gh.canon [] [] [] (zk hw) rfl rfl) hi (by rw[zau hi,hq,hb];rfl) (by omega)
 ·have hi:i=l.length:=by
   have:¬(i:Int)<l.length:=by simpa using hge
   omega
  rw[zbQ hi]at hF
  unfold memoB
  rw[←hF]
  repeat'(first|refine zq0 ?_|exact zd0|(refine zaa ?_ ?_<;>intro hb)|(refine And.intro ?_ ?_;exact zI)|(refine And.intro ?_ ?_<;>intro hg)|exact zC|fail)
abbrev stE (s:St):List D:=[iD s.time,iD s.num,iD s.token, .sl s.sess.length (zaN s.sess), .sl s.locks.length (zax s.locks), .sl s.memos.length (zaG s.memos)]
abbrev zuW (s:St):RF:= .agg ((stE s).map RO.d)
abbrev zuv (a:Reply):RF:= .agg [.d (iD a.code), .d (iD a.session), .d (iD a.ahead), .own 2 a.held.length (zaO a.held) false]
structure Small (s:St):Prop where
 sess:s.sess.length<2^30
 locks:s.locks.length<2^30
 memos:s.memos.length<2^30
 line:∀k∈s.locks,k.line.length<2^30∧k.name.size<2^62
 held:∀m∈s.memos,zbS m.reply
abbrev zuw (l:List Sess) (gone:List Int):List Sess:=l.filter fun x=> !hasI gone x.client
abbrev zxc (b:St) (x:Sess):Bool:= !((zbx b.sess x.client).any fun y=>y.num==x.num)
theorem zhm (n:Int):CallOK Tryz.prog 71 [.f (ai n)] (fun r o=>r=[rb (within n)]∧o=[]):=by
 refine zae zam mixed (T:=Ty) (n:=9) Tryz.func71 (c:=Tryz.f71.body.getD .skip) rfl Tryz.results71 Tryz.ntmps71 Tryz.call71 ?_
 simp only[Tryz.f71,Option.getD]
 repeat'(first|refine zq0 ?_|exact zd0|(refine zaa ?_ ?_<;>intro hb)|(refine And.intro ?_ ?_;exact zI)|(refine And.intro ?_ ?_<;>intro hg)|exact zC|fail)
 rfl
theorem zn6 (s:St) (h:Small s) (hs:SS s.sess):CallOK Tryz.prog 75 [.f (.agg s.lent)] (fun r o=>r=[rb (zd8 s)]∧o=[]):=by
 refine zae zam mixed (T:=Ty) (n:=40) Tryz.func75 (c:=Tryz.f75.body.getD .skip) rfl Tryz.results75 Tryz.ntmps75 Tryz.call75 ?_
 simp only[Tryz.f75,Option.getD]
 have hL:=h.locks
 repeat'(first|refine zq0 ?_|exact zd0|(refine zaa ?_ ?_<;>intro hb)|(refine And.intro ?_ ?_;exact zI)|(refine And.intro ?_ ?_<;>intro hg)|exact zC|fail)
 refine zah (τ:=Nat) (fun i=>⟨[dd, .one (.ptr ⟨1,0,1⟩ 0),dd,ab true,dd,dd,dd,dd,dd,dd,dd,al s.locks.length (zax s.locks),ai s.locks.length,ai i,dd,dd,dd,dd,dd,dd,dd,dd,dd,dd,dd,dd,dd,dd,dd,dd,dd,dd,dd,dd,dd,dd,dd,dd,dd,dd],[(1,{next:=2,l:=[some {e:=1,var:=true,fz:=false,sz:=0,cells:=[di s.time,di s.num,di s.token, .lent s.sess.length (zaN s.sess), .lent s.locks.length (zax s.locks), .lent s.memos.length (zaG s.memos)]},none,none,none,none,none,none]}),(5,⟨2,[]⟩),(8,⟨2,[]⟩),(19,⟨2,[]⟩),(22,⟨2,[]⟩)]⟩)
  (fun i=>i≤s.locks.length) (fun i=>(s.locks.drop i).all fun k=>(k.holder::k.line).all fun c=>(zbx s.sess c).isSome) (fun i=>s.locks.length - i) 0
  (Gh.canon [1] [5,8,19,22] [] zK rfl rfl) (Nat.zero_le _) ?_
 intro i hi0 hF K hK
 rw[List.drop_zero]at hF
 refine zw ?_
 refine zaa (fun hlt=> ?_) (fun hge=> ?_)
 ·have hi:i<s.locks.length:=by simpa using hlt
  have hat:=zbd hi
  have hw:=zai hi (by omega)
  have hli:=(h.line _ (List.getElem_mem hi)).1
  rw[List.drop_eq_getElem_cons hi,List.all_cons]at hF
  obtain⟨c,hc⟩:∃c,c=s.locks[i].holder::s.locks[i].line:=⟨_,rfl⟩
  have hcl:c.length=1+s.locks[i].line.length:=by rw[hc,List.length_cons];omega
  rw[←hc]at hF
  repeat'(first|refine zq (I hat (I @zal (I @zaq zca))) ?_|exact zd (I hat (I @zal (I @zaq zca)))|(refine zaa ?_ ?_<;>intro hb)|(refine And.intro ?_ ?_;exact zI)|(refine And.intro ?_ ?_<;>intro hg)|exact zC|fail)
  refine zah (τ:=Nat) (fun j=>⟨[dd, .one (.ptr ⟨1,0,1⟩ 0),dd,ab true,dd,dd,dd,dd,dd,dd,dd,al s.locks.length (zax s.locks),ai s.locks.length,ai i,dd,dd,dd,dd,dd,dd,dd,dd, .one (.own ⟨19,1,1⟩ 0 c.length),ai c.length,ai j,dd,dd,dd,dd,dd,dd,dd,dd,dd,dd,dd,dd,dd,dd,dd],[(1,{next:=2,l:=[some {e:=1,var:=true,fz:=false,sz:=0,cells:=[di s.time,di s.num,di s.token, .lent s.sess.length (zaN s.sess), .lent s.locks.length (zax s.locks), .lent s.memos.length (zaG s.memos)]},none,none,none,none,none,none]}),(5,⟨2,[]⟩),(8,⟨2,[]⟩),(19,{next:=2,l:=[none,some {e:=1,var:=false,fz:=false,sz:=1,cells:=(za3 c).map C.d}]}),(22,⟨2,[]⟩)]⟩)
   (fun j=>j≤c.length) (fun j=>(c.drop j).all fun c=>(zbx s.sess c).isSome) (fun j=>c.length - j) 0
   (Gh.canon [1,19] [] [] (zk hcl) rfl (by rw[hc];rfl)) (Nat.zero_le _) ?_
  intro j hj0 hF2 K2 hK2
  rw[List.drop_zero]at hF2
  refine zw ?_
  refine zaa (fun hlt2=> ?_) (fun hge2=> ?_)
  ·have hj:j<c.length:=by simpa using hlt2
   have haj:=zce hj
   have hwj:=zai hj (by omega)
   have hfi:=zq6 s.sess hs (by have:=h.sess;omega) c[j]
   rw[List.drop_eq_getElem_cons hj,List.all_cons]at hF2
   cases hb:(zbx s.sess c[j]).isSome
   ·rw[hb]at hfi hF2
    rw[←hF2]at hF
    repeat'(first|refine zq (I haj (I @zmd (I @List.map_cons.{0,0} (I @zaq zca)))) ?_|exact zd (I haj (I @zmd (I @List.map_cons.{0,0} (I @zaq zca))))|refine zc (hfi) ?_|refine zg (hfi) ?_|(refine zaa ?_ ?_<;>intro hb)|(refine And.intro ?_ ?_;exact zI)|(refine And.intro ?_ ?_<;>intro hg)|exact zC|fail)
    unfold zd8
    rw[←hF]
    rfl
   ·rw[hb]at hfi hF2
    repeat'(first|refine zq (I haj (I @zmd (I @List.map_cons.{0,0} (I @zaq zca)))) ?_|exact zd (I haj (I @zmd (I @List.map_cons.{0,0} (I @zaq zca))))|refine zc (hfi) ?_|refine zg (hfi) ?_|(refine zaa ?_ ?_<;>intro hb)|(refine And.intro ?_ ?_;exact zI)|(refine And.intro ?_ ?_<;>intro hg)|exact zC|fail)
    exact hK2 _ (j+1) (Gh.canon [1,19] [] [] (zk hwj) rfl rfl) hj (by rw[List.drop_eq_getElem_cons hj,List.all_cons,hb,Bool.true_and]) (by omega)
  ·have hj:j=c.length:=by
    have:¬(j:Int)<c.length:=by simpa using hge2
    omega
   rw[hj,List.drop_length,List.all_nil]at hF2
   rw[←hF2,Bool.true_and]at hF
   repeat'(first|refine zq0 ?_|exact zd0|(refine zaa ?_ ?_<;>intro hb)|(refine And.intro ?_ ?_;exact zI)|(refine And.intro ?_ ?_<;>intro hg)|exact zC|fail)
   exact hK _ (i+1) (Gh.canon [1] [] [] (zk hw) rfl rfl) hi (by rw[List.drop_eq_getElem_cons hi,List.all_cons,←hc,←hF2,Bool.true_and]) (by omega)
 ·have hi:i=s.locks.length:=by
   have:¬(i:Int)<s.locks.length:=by simpa using hge
   omega
  rw[hi,List.drop_length,List.all_nil]at hF
  repeat'(first|refine zq0 ?_|exact zd0|(refine zaa ?_ ?_<;>intro hb)|(refine And.intro ?_ ?_;exact zI)|(refine And.intro ?_ ?_<;>intro hg)|exact zC|fail)
  unfold zd8
  rw[←hF]
set_option maxHeartbeats 1000000 in
theorem zgV (s:St) (h:Small s):CallOK Tryz.prog 32 [.f (.agg s.lent)] (fun r o=>r=[rb (zbn s)]∧o=[]):=by
 refine zae zam mixed (T:=Ty) (n:=69) Tryz.func32 (c:=Tryz.f32.body.getD .skip) rfl Tryz.results32 Tryz.ntmps32 Tryz.call32 ?_
 simp only[Tryz.f32,Option.getD]
 have w1:=zhm s.time
 have w2:=zhm s.num
 have w3:=zhm s.token
 have hsr:=zk3 s.sess h.sess
 have hlr:=zk1 s.locks h.locks h.line
 have hmr:=zkZ s.memos h.memos h.held
 have hns:=h.sess
 have hnl:=h.locks
 cases hA:(!within s.time|| !within s.num|| !within s.token|| !sessB s.sess|| !lockB s.locks|| !memoB s.memos)
 ·have hss:SS s.sess:=(zj3.1 (by simp at hA;exact hA.1.1.2)).2.2.1
  have hrb:zbn s=((s.sess.all fun x=>decide (x.num≤s.num))&&(s.locks.all fun k=>decide (k.token≤s.token))&&zd8 s):=by
   unfold zbn
   simp at hA
   rw[hA.1.1.1.1.1,hA.1.1.1.1.2,hA.1.1.1.2,hA.1.1.2,hA.1.2,hA.2]
   rfl
  have hse:=zn6 s h hss
  repeat'(first|refine zq hA ?_|exact zd hA|refine zc (w1) ?_|refine zg (w1) ?_|refine zc (w2) ?_|refine zg (w2) ?_|refine zc (w3) ?_|refine zg (w3) ?_|refine zc (hsr) ?_|refine zg (hsr) ?_|refine zc (hlr) ?_|refine zg (hlr) ?_|refine zc (hmr) ?_|refine zg (hmr) ?_|(refine zaa ?_ ?_<;>intro hb)|(refine And.intro ?_ ?_;exact zI)|(refine And.intro ?_ ?_<;>intro hg)|exact zC|fail)
  refine zah (τ:=Nat) (fun i=>⟨[dd, .one (.ptr ⟨1,0,1⟩ 0),dd,dd,dd,dd,dd,dd,dd,dd,dd,dd,dd,dd,dd,dd,dd,dd,dd,dd,dd,dd,dd,dd,dd,dd,dd,dd,dd,dd,dd,dd,dd,dd,dd,dd,dd,dd,dd,dd,dd,dd,al s.sess.length (zaN s.sess),ai s.sess.length,ai i,dd,dd,dd,dd,dd,dd,dd,dd,dd,dd,dd,dd,dd,dd,dd,dd,dd,dd,dd,dd,dd,dd,dd,dd],[(1,{next:=2,l:=[some {e:=1,var:=true,fz:=false,sz:=0,cells:=[di s.time,di s.num,di s.token, .lent s.sess.length (zaN s.sess), .lent s.locks.length (zax s.locks), .lent s.memos.length (zaG s.memos)]},none,none,none,none,none,none]}),(4,⟨2,[]⟩)]⟩)
   (fun i=>i≤s.sess.length) (fun i=>(s.sess.drop i).all fun x=>decide (x.num≤s.num)) (fun i=>s.sess.length - i) 0
   (Gh.canon [1] [4] [] zK rfl rfl) (Nat.zero_le _) ?_
  intro i hi0 hF K hK
  rw[List.drop_zero]at hF
  refine zw ?_
  refine zaa (fun hlt=> ?_) (fun hge=> ?_)
  ·have hi:i<s.sess.length:=by simpa using hlt
   have hat:=zbu hi
   have hw:=zai hi (by omega)
   rw[List.drop_eq_getElem_cons hi,List.all_cons]at hF
   repeat'(first|refine zq (I hat (I @zas zca)) ?_|exact zd (I hat (I @zas zca))|(refine zaa ?_ ?_<;>intro hb)|(refine And.intro ?_ ?_;exact zI)|(refine And.intro ?_ ?_<;>intro hg)|exact zC|fail)
   ·rw[show decide (s.sess[i].num≤s.num)=false by simp at hb⊢;omega]at hF
    rw[hrb,←hF]
    rfl
   ·exact hK _ (i+1) (Gh.canon [1] [] [] (zk hw) rfl rfl) hi (by rw[List.drop_eq_getElem_cons hi,List.all_cons,show decide (s.sess[i].num≤s.num)=true by simp at hb⊢;omega,Bool.true_and]) (by omega)
  ·have hi:i=s.sess.length:=by
    have:¬(i:Int)<s.sess.length:=by simpa using hge
    omega
   rw[hi,List.drop_length,List.all_nil]at hF
   rw[←hF,Bool.true_and]at hrb
   repeat'(first|refine zq0 ?_|exact zd0|(refine zaa ?_ ?_<;>intro hb)|(refine And.intro ?_ ?_;exact zI)|(refine And.intro ?_ ?_<;>intro hg)|exact zC|fail)
   refine zah (τ:=Nat) (fun i=>⟨[dd, .one (.ptr ⟨1,0,1⟩ 0),dd,dd,dd,dd,dd,dd,dd,dd,dd,dd,dd,dd,dd,dd,dd,dd,dd,dd,dd,dd,dd,dd,dd,dd,dd,dd,dd,dd,dd,dd,dd,dd,dd,dd,dd,dd,dd,dd,dd,dd,dd,dd,dd,dd,dd,dd,dd,dd,dd,dd,dd,dd,dd,al s.locks.length (zax s.locks),ai s.locks.length,ai i,dd,dd,dd,dd,dd,dd,dd,dd,dd,dd,dd],[(1,{next:=2,l:=[some {e:=1,var:=true,fz:=false,sz:=0,cells:=[di s.time,di s.num,di s.token, .lent s.sess.length (zaN s.sess), .lent s.locks.length (zax s.locks), .lent s.memos.length (zaG s.memos)]},none,none,none,none,none,none]}),(4,⟨2,[]⟩),(6,⟨2,[]⟩)]⟩)
    (fun i=>i≤s.locks.length) (fun i=>(s.locks.drop i).all fun k=>decide (k.token≤s.token)) (fun i=>s.locks.length - i) 0
    (Gh.canon [1] [6] [] zK rfl rfl) (Nat.zero_le _) ?_
   intro i hi0 hF K hK
   rw[List.drop_zero]at hF
   refine zw ?_
   refine zaa (fun hlt=> ?_) (fun hge=> ?_)
   ·have hi:i<s.locks.length:=by simpa using hlt
    have hat:=zbd hi
    have hw:=zai hi (by omega)
    rw[List.drop_eq_getElem_cons hi,List.all_cons]at hF
    repeat'(first|refine zq (I hat (I @zal zca)) ?_|exact zd (I hat (I @zal zca))|(refine zaa ?_ ?_<;>intro hb)|(refine And.intro ?_ ?_;exact zI)|(refine And.intro ?_ ?_<;>intro hg)|exact zC|fail)
    ·rw[show decide (s.locks[i].token≤s.token)=false by simp at hb⊢;omega]at hF
     rw[hrb,←hF]
     rfl
    ·exact hK _ (i+1) (Gh.canon [1] [] [] (zk hw) rfl rfl) hi (by rw[List.drop_eq_getElem_cons hi,List.all_cons,show decide (s.locks[i].token≤s.token)=true by simp at hb⊢;omega,Bool.true_and]) (by omega)
   ·have hi:i=s.locks.length:=by
     have:¬(i:Int)<s.locks.length:=by simpa using hge
     omega
    rw[hi,List.drop_length,List.all_nil]at hF
    rw[←hF,Bool.true_and]at hrb
    rw[hrb]
    repeat'(first|refine zq0 ?_|exact zd0|refine zc (hse) ?_|refine zg (hse) ?_|(refine zaa ?_ ?_<;>intro hb)|(refine And.intro ?_ ?_;exact zI)|(refine And.intro ?_ ?_<;>intro hg)|exact zC|fail)
 ·have hrb:zbn s=false:=by
   unfold zbn
   simp at hA
   simp
   intros
   simp_all
  rw[hrb]
  repeat'(first|refine zq hA ?_|exact zd hA|refine zc (w1) ?_|refine zg (w1) ?_|refine zc (w2) ?_|refine zg (w2) ?_|refine zc (w3) ?_|refine zg (w3) ?_|refine zc (hsr) ?_|refine zg (hsr) ?_|refine zc (hlr) ?_|refine zg (hlr) ?_|refine zc (hmr) ?_|refine zg (hmr) ?_|(refine zaa ?_ ?_<;>intro hb)|(refine And.intro ?_ ?_;exact zI)|(refine And.intro ?_ ?_<;>intro hg)|exact zC|fail)
abbrev zxp (s:St):AV:= .agg ((stE s).map C.d)
theorem zgi {b:ByteArray} (h:nameP b=true):b.size≤12:=by
 unfold nameP at h
 simp only[Bool.and_eq_true,decide_eq_true_eq]at h
 omega
theorem zn5 {r:Reply} (h:zbz r=true):zbS r:=by
 unfold zbz at h
 simp only[Bool.and_eq_true,Bool.not_eq_true',Bool.or_eq_false_iff,decide_eq_false_iff_not]at h
 obtain⟨⟨_,h1,_⟩,h2⟩:=h
 refine⟨by omega,fun g hg=> ?_⟩
 obtain⟨j,hj,rfl⟩:=List.getElem_of_mem hg
 have:=zcD.1 h2 j hj
 unfold zcA at this
 simp only[Bool.not_eq_true',Bool.or_eq_false_iff,Bool.not_eq_false']at this
 have:=zgi this.1.1.1
 omega
theorem zgj:∀{l:List Int} {a b:Int},l.Pairwise (·<·)→(∀x∈l,a≤x∧x<b)→(l.length:Int)≤max (b - a) 0
 |[],a,b,_,_=>by simp;omega
 |x::l,a,b,h,hb=>by
  have h':=List.pairwise_cons.1 h
  have hx:=hb x (List.mem_cons_self ..)
  have:=zgj (a:=x+1) (b:=b) h'.2 (fun y hy=>⟨by have:=h'.1 y hy;omega,(hb y (List.mem_cons_of_mem _ hy)).2⟩)
  simp only[List.length_cons];omega
theorem zdN {m:Memo} (h:answerB m=true):(0≤m.client∧m.client<8)∧(1≤m.seq∧m.seq≤zdu)∧zbz m.reply=true:=by
 unfold answerB at h
 simp only[Bool.and_eq_true,decide_eq_true_eq]at h
 exact⟨⟨h.1.1.1.1,h.1.1.1.2⟩,⟨h.1.1.2,h.1.2⟩,h.2⟩
theorem zbJ {s:St} (h:RightS s):Small s:=by
 refine⟨by have:=h.sl;omega,by have:=h.ll;omega, ?_,fun k hk=> ?_,fun m hm=>zn5 (zdN (h.mok m hm)).2.2⟩
 ·have:=zgj (a:=0) (b:=8) (zrq.1 h.ms) (fun x hx=>by
   obtain⟨m,hm,rfl⟩:=List.mem_map.1 hx
   exact(zdN (h.mok m hm)).1)
  rw[List.length_map]at this
  omega
 ·obtain⟨a,_,b,_⟩:=h.lok k hk
  have h1:=(zj4.1 b).1
  have h2:=zgi (zl3.1 a).1
  omega
abbrev zxw (l:List Sess) (gone:List Int) (i:Nat):List Sess:=zuw l (gone.take i)
def zbI (n:Int):Prop:=0≤n∧n<256
def ztj:List ByteArray:=[⟨#[97]⟩,⟨#[98]⟩,⟨#[99]⟩,⟨#[100]⟩,⟨#[107,101,121,45,49]⟩,⟨#[116,104,101,45,108,97,115,116,45,111,110,101]⟩]
def ztk (n:Int):ByteArray:=(ztj[(n % 6).toNat]?).getD .empty
def zn4 (a:Int):Int:=1+a % 6
def zut (a b:Int):Int:=if zn4 a=1 then 0 else 1+b % 7
def zuu (a c:Int):ByteArray:=if(zn4 a==3||zn4 a==4||zn4 a==5)=true then ztk c else .empty
structure Act where
 time:Int
 client:Int
 seq:Int
 kind:Int
 session:Int
 name:Int
abbrev Act.enc (a:Act):List D:=[uD a.time,uD a.client,uD a.seq,uD a.kind,uD a.session,uD a.name]
abbrev zw8 (l:List Act):List D:=l.flatMap Act.enc
def zw9 (a:Act):Prop:=zbI a.time∧zbI a.client∧zbI a.seq∧zbI a.kind∧zbI a.session∧zbI a.name
def zxa (c q k s n:Int):Req:=⟨c % 8,1+q,zn4 k,zut k s,zuu k n⟩
def zxb (s:St) (a:Act):Req:=
 let r:=zxa a.client (a.seq % 6) a.kind a.session a.name
 let b1:=(zbx s.sess r.client).isSome&&decide (a.session % 8>0)&&(r.kind !=1)
 let b2:= !(zbx s.sess r.client).isSome&&decide (a.session % 4>0)
 ⟨r.client,if decide (a.seq % 5>0)=true then(if(zoe s.memos r.client).isSome=true then((zoe s.memos r.client).getD zt4).seq+1 else 1)else r.seq,
  if b2=true then 1 else r.kind,if b2=true then 0 else if b1=true then((zbx s.sess r.client).getD zk2).num else r.session,if b2=true then .empty else r.name⟩
theorem zjN (v a:Int):CallOK Tryz.prog 133 [.f (ai v), .f (ai a)] (fun r o=>r=[rb (decide (v≥a)&&decide (v≤2305843009213693952))]∧o=[]):=by
 refine zae zam mixed (T:=Ty) (n:=12) Tryz.func133 (c:=Tryz.f133.body.getD .skip) rfl Tryz.results133 Tryz.ntmps133 Tryz.call133 ?_
 simp only[Tryz.f133,Option.getD]
 repeat'(first|refine zq0 ?_|exact zd0|(refine zaa ?_ ?_<;>intro hb)|(refine And.intro ?_ ?_;exact zI)|(refine And.intro ?_ ?_<;>intro hg)|exact zC|fail)
theorem zmL (s:ByteArray) (hs:s.size<2^62):CallOK Tryz.prog 130 [.f (ast s)] (fun r o=>r=[rb (nameP s)]∧o=[]):=by
 refine zae zam mixed (T:=Ty) (n:=41) Tryz.func130 (c:=Tryz.f130.body.getD .skip) rfl Tryz.results130 Tryz.ntmps130 Tryz.call130 ?_
 simp only[Tryz.f130,Option.getD]
 refine zw ?_
 refine zaa (fun hb=> ?_) (fun hb=> ?_)
 ·refine zw ?_
  have:nameP s=false:=by
   unfold nameP
   rw[Bool.and_eq_false_iff];right
   simp only[Bool.or_eq_true,decide_eq_true_eq]at hb
   simp only[Bool.and_eq_false_iff,decide_eq_false_iff_not]
   omega
  rw[this]
 have hsz:(decide ((s.size:Int)≥1)&&decide ((s.size:Int)≤12))=true:=by
  simp only[Bool.or_eq_false_iff,decide_eq_false_iff_not]at hb
  simp only[Bool.and_eq_true,decide_eq_true_eq]
  omega
 refine zw ?_
 refine zfV Ty Tryz.prog (τ:=Nat) (fun i=>⟨[ast s,dd,ab false,ai i,dd,dd,dd,dd,dd,dd,dd,dd,dd,dd,dd,dd,dd,dd,dd,dd,dd,dd,dd,dd,dd,dd,dd,dd,dd,dd,dd,dd,dd,dd,dd,dd,dd,dd,dd,dd,dd],[]⟩) (fun i=>i≤s.size∧∀j,j<i→zfW (s.data.getD j 0)=true) (fun i=>s.size - i) 0 ?_ ⟨Nat.zero_le _,fun j hj=>absurd hj (Nat.not_lt_zero j)⟩ ?_
 ·refine Gh.fgt ?_
  simp only[zb1,zb2,zcF,Int.natCast_zero]
 intro i ⟨h1,h2⟩ K hK
 refine zw ?_
 refine zaa (fun hlt=> ?_) (fun hge=> ?_)
 ·have hi:i<s.size:=by simpa using hlt
  refine zw ?_
  refine⟨⟨Int.natCast_nonneg i,by omega⟩, ?_⟩
  refine⟨zpl ?_, ?_⟩
  ·simp_all;omega
  have hok:zfW (s.data.getD i 0)= !((decide (((s.data.getD i 0).toNat:Int)<97)||decide (((s.data.getD i 0).toNat:Int)>122))&&(decide (((s.data.getD i 0).toNat:Int)<48)||decide (((s.data.getD i 0).toNat:Int)>57))&&(((s.data.getD i 0).toNat:Int) !=45)):=rfl
  generalize ((s.data.getD i 0).toNat:Int)=c at hok⊢
  refine zaa (fun hb2=> ?_) (fun hb2=> ?_)
  ·refine zw ?_
   have hn:nameP s=false:=by
    unfold nameP
    rw[show((List.range s.size).all fun j=>zfW (s.data.getD j 0))=false from List.all_eq_false.2 ⟨i,List.mem_range.2 hi,by rw[hok];revert hb2;simp;omega⟩,Bool.false_and]
   rw[hn]
  ·refine zw ?_
   refine hK _ (i+1) (Gh.fgt ?_) ⟨hi,fun j hj=> ?_⟩ (by omega)
   ·simp only[zai hi (by omega),zb1,zb2,zcF]
   ·rcases Nat.lt_or_ge j i with h|h
    ·exact h2 j h
    ·rw[show j=i from by omega,hok];revert hb2;simp;omega
 ·refine zw ?_
  have hi:i=s.size:=by
   have:¬(i:Int)<s.size:=by simpa using hge
   omega
  have hn:nameP s=true:=by
   unfold nameP
   rw[show((List.range s.size).all fun j=>zfW (s.data.getD j 0))=true from List.all_eq_true.2 fun j hj=>h2 j (by rw[hi];exact List.mem_range.1 hj),Bool.true_and,hsz]
  rw[hn]
theorem zt7:∀(a b:List UInt8),(Go.Op.bytesLess a b||a==b)= !(Go.Op.bytesLess b a)
 |[],[]=>rfl
 |[],y::ys=>rfl
 |x::xs,[]=>rfl
 |x::xs,y::ys=>by
  have ih:=zt7 xs ys
  rw[Go.Op.bytesLess,Go.Op.bytesLess]
  rw[show((x::xs:List UInt8)==y::ys)=(x==y&&xs==ys) from rfl]
  have htri:x<y∨x=y∨y<x:=by
   rcases Nat.lt_trichotomy x.toNat y.toNat with h|h|h
   ·exact .inl (UInt8.lt_iff_toNat_lt.2 h)
   ·exact .inr (.inl (UInt8.toNat_inj.1 h))
   ·exact .inr (.inr (UInt8.lt_iff_toNat_lt.2 h))
  rcases htri with h|h|h
  ·have h2:¬y<x:=UInt8.lt_asymm h
   have h3:(y==x)=false:=by simp;intro e;subst e;exact absurd h (UInt8.lt_irrefl _)
   simp[h,h2,h3]
  ·subst h
   have h2:¬x<x:=UInt8.lt_irrefl _
   simp only[h2,decide_false,Bool.false_or,beq_self_eq_true,Bool.true_and]
   exact ih
  ·have h2:¬x<y:=UInt8.lt_asymm h
   have h3:(x==y)=false:=by simp;intro e;subst e;exact absurd h (UInt8.lt_irrefl _)
   simp[h,h2,h3]
def zq7 (r:Reply):Bool:=decide (r.code<0)||decide (r.code>12)|| !(decide (r.session≥0)&&decide (r.session≤2305843009213693952))||decide (r.ahead<0)||decide (r.ahead>3)||decide ((r.held.length:Int)>4)||r.session==0&&decide ((r.held.length:Int)>0)
theorem zhN (r:Reply):zbz r=(!(zq7 r)&&za0 (zcA r.held) 0 r.held):=by
 have h1:(decide (r.session≥0)&&decide (r.session≤2305843009213693952))= !(decide (r.session<0)||decide (r.session>zdu)):=by
  have hH:zdu=2305843009213693952:=rfl
  rw[Bool.eq_iff_iff];simp[hH]
 unfold zbz zq7
 rw[h1]
 generalize decide (r.code<0)=a1
 generalize decide (r.code>12)=a2
 generalize decide (r.session<0)=a3
 generalize decide (r.session>zdu)=a4
 generalize decide (r.ahead<0)=a5
 generalize decide (r.ahead>3)=a6
 generalize decide ((r.held.length:Int)>4)=a7
 generalize (r.session==0)=a8
 generalize decide ((r.held.length:Int)>0)=a9
 generalize za0 (zcA r.held) 0 r.held=a0
 cases a1<;>cases a2<;>cases a3<;>cases a4<;>cases a5<;>cases a6<;>first|rfl|(cases a7<;>cases a8<;>cases a9<;>rfl)
set_option maxHeartbeats 2000000 in
theorem zdl (r:Reply) (hr:zbS r):CallOK Tryz.prog 134 [.f (.agg r.lent)] (fun x o=>x=[rb (zbz r)]∧o=[]):=by
 refine zae zam mixed (T:=Ty) (n:=84) Tryz.func134 (c:=Tryz.f134.body.getD .skip) rfl Tryz.results134 Tryz.ntmps134 Tryz.call134 ?_
 simp only[Tryz.f134,Option.getD]
 obtain⟨h1,h2⟩:=hr
 have hh:=zjN r.session 0
 repeat'(first|refine zq0 ?_|exact zd0|refine zc (hh) ?_|refine zg (hh) ?_|(refine zaa ?_ ?_<;>intro hb)|(refine And.intro ?_ ?_;exact zI)|(refine And.intro ?_ ?_<;>intro hg)|exact zC|fail)
 ·rw[zhN,show zq7 r=true from hb];rfl
 ·have hs:zbz r=za0 (zcA r.held) 0 r.held:=by rw[zhN,show zq7 r=false from hb];rfl
  rw[hs]
  clear hb
  refine zah (τ:=Nat) (fun i=>⟨[dd, .one (.ptr ⟨1,0,1⟩ 0),dd,ai i,dd,dd,dd,dd,dd,dd,dd,dd,dd,dd,dd,dd,dd,dd,dd,dd,dd,dd,dd,dd,dd,dd,dd,dd,dd,dd,dd,dd,dd,dd,dd,dd,dd,dd,dd,dd,dd,dd,dd,dd,dd,dd,dd,dd,dd,dd,dd,dd,dd,dd,dd,dd,dd,dd,dd,dd,dd,dd,dd,dd,dd,dd,dd,dd,dd,dd,dd,dd,dd,dd,dd,dd,dd,dd,dd,dd,dd,dd,dd,dd],[(1,{next:=2,l:=[some {e:=1,var:=true,fz:=false,sz:=0,cells:=[di r.code,di r.session,di r.ahead, .lent r.held.length (zaO r.held)]},none,none,none,none]}),(4,⟨2,[]⟩)]⟩)
   (fun i=>i≤r.held.length) (fun i=>za0 (zcA r.held) i (r.held.drop i)) (fun i=>r.held.length - i) 0
   (Gh.canon [1] [4] [] zK rfl rfl) (Nat.zero_le _) ?_
  intro i hi0 hF K hK
  rw[List.drop_zero]at hF
  refine zw ?_
  refine zaa (fun hlt=> ?_) (fun hge=> ?_)
  ·have hi:i<r.held.length:=by simpa using hlt
   have hat:=zbL hi
   have hw:=zai hi (by omega)
   rw[zau hi]at hF
   have hnm:=zmL r.held[i].name (h2 _ (List.getElem_mem hi))
   have hhg:=zjN r.held[i].token 1
   have hH:(decide (r.held[i].token≥1)&&decide (r.held[i].token≤2305843009213693952))= !(decide (r.held[i].token<1)||decide (r.held[i].token>zdu)):=by
    have hH:zdu=2305843009213693952:=rfl
    rw[Bool.eq_iff_iff];simp[hH]
   cases e0:decide ((i:Int)>0)
   ·have h0:i=0:=by simpa using e0
    have hq:zcA r.held i r.held[i]= !(!nameP r.held[i].name|| !(decide (r.held[i].token≥1)&&decide (r.held[i].token≤2305843009213693952))):=by
     unfold zcA
     have:decide (i>0)=false:=by simpa using e0
     rw[this,Bool.false_and,Bool.or_false,hH,Bool.not_not,Bool.or_assoc]
    have hp:(zaO r.held).drop ((IntKind.i64.wrap ((i:Int) - 1)).toNat*2)=r.held[i].enc++zaO (r.held.drop (i+1)):=by
     rw[←zbL hi,h0];rfl
    repeat'(first|refine zq (I hat (I hp (I e0 (I @zaw zca)))) ?_|exact zd (I hat (I hp (I e0 (I @zaw zca))))|refine zc (hnm) ?_|refine zg (hnm) ?_|refine zc (hhg) ?_|refine zg (hhg) ?_|(refine zaa ?_ ?_<;>intro hb)|(refine And.intro ?_ ?_;exact zI)|(refine And.intro ?_ ?_<;>intro hg)|exact zC|fail)
    ·rw[hq,hb,if_neg (by simp)]at hF
     rw[←hF]
    ·exact hK _ (i+1) (Gh.canon [1] [] [] (zk hw) rfl rfl) hi (by rw[zau hi,hq,hb];rfl) (by omega)
   ·have h0:0<i:=by simpa using e0
    have hq:zcA r.held i r.held[i]= !(!nameP r.held[i].name|| !(decide (r.held[i].token≥1)&&decide (r.held[i].token≤2305843009213693952))||(Go.Op.bytesLess r.held[i].name.toList (r.held[i - 1]'(by omega)).name.toList||r.held[i].name.toList==(r.held[i - 1]'(by omega)).name.toList)):=by
     rw[zt7]
     unfold zcA zsa
     have:decide (i>0)=true:=by simpa using e0
     rw[this,List.getElem?_eq_getElem (by omega),hH,Bool.not_not]
     simp only[Bool.true_and,Option.map_some,Option.getD_some,Bool.or_assoc]
    have hp:=zbL (show i - 1<r.held.length by omega)
    have hw1:IntKind.i64.wrap ((i:Int) - 1)=((i - 1:Nat):Int):=by rw[wrap64 (by omega) (by omega)];omega
    repeat'(first|refine zq (I hat (I hp (I hw1 (I e0 (I @zaw zca))))) ?_|exact zd (I hat (I hp (I hw1 (I e0 (I @zaw zca)))))|refine zc (hnm) ?_|refine zg (hnm) ?_|refine zc (hhg) ?_|refine zg (hhg) ?_|(refine zaa ?_ ?_<;>intro hb)|(refine And.intro ?_ ?_;exact zI)|(refine And.intro ?_ ?_<;>intro hg)|exact zC|fail)
    ·rw[hq,hb,if_neg (by simp)]at hF
     rw[←hF]
    ·exact hK _ (i+1) (Gh.canon [1] [] [] (zk hw) rfl rfl) hi (by rw[zau hi,hq,hb];rfl) (by omega)
  ·have hi:i=r.held.length:=by
    have:¬(i:Int)<r.held.length:=by simpa using hge
    omega
   rw[zbQ hi]at hF
   rw[←hF]
   repeat'(first|refine zq0 ?_|exact zd0|(refine zaa ?_ ?_<;>intro hb)|(refine And.intro ?_ ?_;exact zI)|(refine And.intro ?_ ?_<;>intro hg)|exact zC|fail)
theorem zdS (m:Memo) (hr:zbS m.reply):CallOK Tryz.prog 82 [.f (.agg m.lent)] (fun x o=>x=[rb (answerB m)]∧o=[]):=by
 refine zae zam mixed (T:=Ty) (n:=21) Tryz.func82 (c:=Tryz.f82.body.getD .skip) rfl Tryz.results82 Tryz.ntmps82 Tryz.call82 ?_
 simp only[Tryz.f82,Option.getD]
 have hh:=zjN m.seq 1
 repeat'(first|refine zq0 ?_|exact zd0|refine zc (hh) ?_|refine zg (hh) ?_|refine zc (zdl m.reply hr) ?_|refine zg (zdl m.reply hr) ?_|(refine zaa ?_ ?_<;>intro hb)|(refine And.intro ?_ ?_;exact zI)|(refine And.intro ?_ ?_<;>intro hg)|exact zC|fail)
 simp[answerB,Bool.and_assoc]
def kR (a:Memo):List Memo→Bool→List Memo
 |[],put=>if put=true then []else [a]
 |m::r,put=>if(m.client==a.client)=true then a::kR a r true else if(!put&&decide (m.client>a.client))=true then a::m::kR a r true else m::kR a r put
abbrev zw0 (a:Memo):List C:=[di a.client,di a.seq,di a.reply.code,di a.reply.session,di a.reply.ahead, .d (.sl a.reply.held.length (zaO a.reply.held))]
abbrev zps (a:Reply):RF:= .agg [.d (iD a.code), .d (iD a.session), .d (iD a.ahead), .d (.sl a.held.length (zaO a.held))]
def sameI (a b:List Int):Bool:=(a.length==b.length)&&((a.zip b).all fun p=>p.1==p.2)
theorem zln (a b:List Int) (ha:a.length<2^62) (hb:b.length<2^62):CallOK Tryz.prog 95 [.f (al a.length (za3 a)), .f (al b.length (za3 b))] (fun r o=>r=[rb (sameI a b)]∧o=[]):=by
 refine zae zam mixed (T:=Ty) (n:=26) Tryz.func95 (c:=Tryz.f95.body.getD .skip) rfl Tryz.results95 Tryz.ntmps95 Tryz.call95 ?_
 simp only[Tryz.f95,Option.getD]
 cases hl:((a.length:Int) !=(b.length:Int))
 ·have hle:a.length=b.length:=by simp at hl;omega
  have hs:sameI a b=(a.zip b).all fun p=>p.1==p.2:=by unfold sameI;rw[hle];simp
  rw[hs]
  repeat'(first|refine zq hl ?_|exact zd hl|(refine zaa ?_ ?_<;>intro hb)|(refine And.intro ?_ ?_;exact zI)|(refine And.intro ?_ ?_<;>intro hg)|exact zC|fail)
  refine zah (τ:=Nat) (fun i=>⟨[al a.length (za3 a),al b.length (za3 b),dd,dd,dd,ai i,dd,dd,dd,dd,dd,dd,dd,dd,dd,dd,dd,dd,dd,dd,dd,dd,dd,dd,dd,dd],[]⟩)
   (fun i=>i≤a.length) (fun i=>((a.drop i).zip (b.drop i)).all fun p=>p.1==p.2) (fun i=>a.length - i) 0
   (Gh.canon [] [] [] zK rfl rfl) (Nat.zero_le _) ?_
  intro i hi0 hF K hK
  rw[List.drop_zero,List.drop_zero]at hF
  refine zw ?_
  refine zaa (fun hlt=> ?_) (fun hge=> ?_)
  ·have hi:i<a.length:=by simpa using hlt
   have hib:i<b.length:=by omega
   have hat:=zce hi
   have hbt:=zce hib
   have hw:=zai hi ha
   have hq:(((a.drop i).zip (b.drop i)).all fun p=>p.1==p.2)=((a[i]==b[i])&&(((a.drop (i+1)).zip (b.drop (i+1))).all fun p=>p.1==p.2)):=by
    rw[List.drop_eq_getElem_cons hi,List.drop_eq_getElem_cons hib,List.zip_cons_cons,List.all_cons]
   rw[hq]at hF
   cases he:a[i] !=b[i]
   ·have he':(a[i]==b[i])=true:=by simpa using he
    rw[he',Bool.true_and]at hq
    repeat'(first|refine zq (I hat (I hbt (I he (I @zaq zca)))) ?_|exact zd (I hat (I hbt (I he (I @zaq zca))))|(refine zaa ?_ ?_<;>intro hb)|(refine And.intro ?_ ?_;exact zI)|(refine And.intro ?_ ?_<;>intro hg)|exact zC|fail)
    exact hK _ (i+1) (Gh.canon [] [] [] (zk hw) rfl rfl) hi hq.symm (by omega)
   ·have he':(a[i]==b[i])=false:=by simpa using he
    rw[he',Bool.false_and]at hF
    repeat'(first|refine zq (I hat (I hbt (I he (I @zaq zca)))) ?_|exact zd (I hat (I hbt (I he (I @zaq zca))))|(refine zaa ?_ ?_<;>intro hb)|(refine And.intro ?_ ?_;exact zI)|(refine And.intro ?_ ?_<;>intro hg)|exact zC|fail)
    rw[←hF]
  ·have hi:i=a.length:=by
    have:¬(i:Int)<a.length:=by simpa using hge
    omega
   rw[hi,List.drop_length,List.zip_nil_left,List.all_nil]at hF
   rw[←hF]
   repeat'(first|refine zq0 ?_|exact zd0|(refine zaa ?_ ?_<;>intro hb)|(refine And.intro ?_ ?_;exact zI)|(refine And.intro ?_ ?_<;>intro hg)|exact zC|fail)
 ·have hs:sameI a b=false:=by
   have:(a.length==b.length)=false:=by simp at hl⊢;omega
   unfold sameI;rw[this];rfl
  rw[hs]
  repeat'(first|refine zq hl ?_|exact zd hl|(refine zaa ?_ ?_<;>intro hb)|(refine And.intro ?_ ?_;exact zI)|(refine And.intro ?_ ?_<;>intro hg)|exact zC|fail)
def st0:St:=⟨0,0,0,[],[],[]⟩
def rq0:Req:=⟨3,1,1,0, .empty⟩
theorem zhl:RightS st0:=zbP.1 rfl
def st1:St:=⟨0,1,0,[⟨3,1,0⟩],[],[⟨3,1,⟨0,1,0,[]⟩⟩]⟩
def zus (s:St) (a:Act):St:=(ztq (zl4 s (s.time+a.time % 16) 60) (zxb (zl4 s (s.time+a.time % 16) 60) a)).1
def zti:List Act→St→St
 |[],s=>s
 |a::r,s=>zti r (zus s a)
structure Mk (s:St) (i:Nat):Prop where
 rt:RightS s
 num:s.num≤i
 tok:s.token≤8*i
abbrev zw7 (acts:List Act):St:=zti (acts.take 60) st0
end Go.Proofs.YtbpmcjeeeiffhaaGreat
