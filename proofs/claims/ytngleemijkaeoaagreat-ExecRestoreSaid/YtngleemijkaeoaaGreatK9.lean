import Derived.Test.YtngleemijkaeoaaGreatK8
set_option linter.unusedVariables false
set_option linter.unusedSimpArgs false
set_option linter.unusedSectionVars false
namespace Go.Pk
section
variable {T:Nat→Option TI} {P:Program} {cx:Cx} {v:List AV} {r:Rs} {a:Act} {w:World} {β:Nat→Nat→Pl}
theorem Holds.again (h:Holds cx ⟨v,r⟩ a w β) {hd:Hd} {d n:Nat} {res:Res} {ds:List D} {u:Value} (hg:getR r hd=some res) (hf:res.fz=true)
  (hu:ReC cx w r β (.own hd 0 n) u) (hds:toDs (sub 0 n res.sz res.cells)=some ds):
  ∃β' ad cap,Holds cx ⟨v,setR d ⟨nxt r d+1,[none,some {e:=nxt r d,var:=false,fz:=true,sz:=res.sz,cells:=ds.map C.d}]⟩ r⟩ a w β'∧
   u= .slice ad n cap∧n≤cap∧ReC cx w (setR d ⟨nxt r d+1,[none,some {e:=nxt r d,var:=false,fz:=true,sz:=res.sz,cells:=ds.map C.d}]⟩ r) β' (.gap ⟨d,1,nxt r d⟩ 0 n n) (.slice ad n n):=by
 generalize hr':setR d ⟨nxt r d+1,[none,some {e:=nxt r d,var:=false,fz:=true,sz:=res.sz,cells:=ds.map C.d}]⟩ r=r'
 simp only[ReC]at hu
 obtain⟨_,_,hu⟩:=hu
 obtain⟨o1,o2,o3,ad,o4,o5⟩:=hu res hg
 rw[Nat.zero_mul,Nat.zero_add]at o2
 rw[Nat.zero_add]at o3
 rw[Nat.sub_zero]at o4 o5
 obtain⟨hl,he⟩:=zad hg
 obtain⟨hok,_⟩:=h.rs _ _ _ hl
 obtain⟨ds0,k1,k2,k3⟩:=hok.row o1
 have hds0:ds=ds0.take (n*res.sz):=by
  rw[k1,zcK,zaG]at hds
  simpa using hds.symm
 have hlen:n*res.sz≤ds0.length:=by rw[k1,List.length_map]at o2;exact o2
 obtain⟨pl0,hpl⟩:∃pl0:Pl,pl0=if n=0 then⟨none,0⟩else⟨(β hd.s hd.j).base,n⟩:=⟨_,rfl⟩
 have hplb:∀b o,pl0.base=some (b,o)→(β hd.s hd.j).base=some (b,o):=fun b o hb=>by
  rw[hpl]at hb
  split at hb
  ·cases hb
  ·exact hb
 have hlook:∀j x,lookR r' d j=some x→j=1∧x={e:=nxt r d,var:=false,fz:=true,sz:=res.sz,cells:=ds.map C.d}:=fun j x hx=>by
  rw[←hr',zaC,if_pos rfl]at hx
  simp only at hx
  match j with
  |0=>simp at hx
  |1=>simp at hx;exact⟨rfl,hx.symm⟩
  |j+2=>simp at hx
 have hlook2:∀s j,s≠d→lookR r' s j=lookR r s j:=fun s j hs=>by rw[←hr',zaC,if_neg (Ne.symm hs)]
 have hnx:nxt r' d=nxt r d+1:=by rw[←hr',zaK,if_pos rfl]
 have hnx2:∀s,s≠d→nxt r' s=nxt r s:=fun s hs=>by rw[←hr',zaK,if_neg (Ne.symm hs)]
 let β':Nat→Nat→Pl:=fun s j=>if s=d then(if j=1 then pl0 else⟨none,0⟩)else β s j
 have hβ0:β' d 1=pl0:=by simp[β']
 have hβ1:∀s j,s≠d→β' s j=β s j:=fun s j hs=>by simp[β',hs]
 have hx:Ext cx w r β w r' β':=by
  refine⟨fun s=> ?_,fun hd res' hlt hg=> ?_,⟨fun b _ _=>rfl,fun b hb' hA=> ?_⟩,fun b _ _=>rfl,rfl,rfl⟩
  ·by_cases hs:s=d
   ·subst hs;rw[hnx];exact Nat.le_succ _
   ·rw[hnx2 s hs];exact Nat.le_refl _
  ·obtain⟨hl,hee⟩:=zad hg
   by_cases hs:hd.s=d
   ·rw[hs]at hl
    obtain⟨_,rfl⟩:=hlook _ _ hl
    rw[hs]at hlt
    simp only at hee
    omega
   ·rw[hlook2 _ _ hs]at hl
    exact⟨res',zas hl hee,hβ1 _ _ hs,rfl,rfl,Nat.le_refl _⟩
  ·rcases hA with hA|⟨s,j,res,o,hl,hf,hbs⟩
   ·exact .inl hA
   ·by_cases hs:s=d
    ·subst hs
     obtain⟨rfl,rfl⟩:=hlook _ _ hl
     cases hf
    ·rw[hlook2 _ _ hs]at hl
     rw[hβ1 _ _ hs]at hbs
     exact .inr ⟨s,j,res,o,hl,hf,hbs⟩
 have hcap:pl0.cap=n:=by rw[hpl];split<;>simp_all
 refine⟨β',ad,_,h.mk' hx (fun s j res2 hl=> ?_) (fun s j res s' j' res' b o o' hl hf hl' hf' hbs hbs'=> ?_) (fun s j res b o hl hf hbs=> ?_) (Nat.le_refl _),o4,o3, ?_⟩
 ·by_cases hs:s=d
  ·subst hs
   obtain⟨rfl,rfl⟩:=hlook _ _ hl
   rw[hβ0]
   refine⟨?_,by rw[hnx];exact Nat.lt_succ_self _⟩
   unfold ResOK
   rw[if_neg (by simp)]
   have hk2:RowM w (Av cx r' β') pl0 res.sz ds:=by
    have k2:=k2.stb hx.st (fun _ _ _=>rfl)
    unfold RowM at k2⊢
    cases hb:pl0.base with
    |none=>
     simp only
     by_cases hn:n=0
     ·subst hn
      exact⟨by rw[hds0];simp,hcap⟩
     ·rw[hpl,if_neg hn]at hb
      simp only at hb
      rw[hb]at k2
      simp only at k2
      omega
    |some p=>
     obtain⟨b,o⟩:=p
     rw[hplb b o hb]at k2
     obtain⟨c,e,m1,m2,m3,m4⟩:=k2
     refine⟨c,e,m1, ?_, ?_,fun k d hk=> ?_⟩
     ·rw[hcap]
      have:=Nat.mul_le_mul_right res.sz o3
      omega
     ·rw[hcap,hds0,List.length_take];exact Nat.min_le_left _ _
     ·refine m4 k d ?_
      rw[hds0,List.getElem?_take]at hk
      split at hk
      ·exact hk
      ·cases hk
   exact⟨ds,rfl,hk2,fun _ b o hb hA=>k3 hf b o (hplb b o hb) (hx.st.av b (hok.lt (hplb b o hb)) hA)⟩
  ·rw[hlook2 _ _ hs]at hl
   rw[hβ1 _ _ hs]
   obtain⟨g1,g2⟩:=h.rs s j res2 hl
   exact⟨g1.ext hx (fun b o hbs=>rfl) (fun b o hbs=>g1.lt hbs),by rw[hnx2 s hs];exact g2⟩
 ·by_cases hs:s=d
  ·subst hs
   obtain⟨rfl,rfl⟩:=hlook _ _ hl
   cases hf
  ·by_cases hs':s'=d
   ·subst hs'
    obtain⟨rfl,rfl⟩:=hlook _ _ hl'
    cases hf'
   ·rw[hlook2 _ _ hs]at hl
    rw[hlook2 _ _ hs']at hl'
    rw[hβ1 _ _ hs]at hbs
    rw[hβ1 _ _ hs']at hbs'
    exact h.inj _ _ _ _ _ _ _ _ _ hl hf hl' hf' hbs hbs'
 ·by_cases hs:s=d
  ·subst hs
   obtain⟨rfl,rfl⟩:=hlook _ _ hl
   cases hf
  ·rw[hlook2 _ _ hs]at hl
   rw[hβ1 _ _ hs]at hbs
   exact h.fr _ _ _ _ _ hl hf hbs
 ·simp only[ReC]
  refine⟨rfl,by rw[hnx];exact Nat.lt_succ_self _,by omega,ad,by rw[Nat.sub_zero],fun res' hg'=> ?_⟩
  obtain⟨hl',_⟩:=zad hg'
  obtain⟨_,rfl⟩:=hlook _ _ hl'
  refine⟨rfl,by rw[hβ0];exact hcap, ?_⟩
  rw[hβ0,Nat.sub_zero]
  by_cases hn:n=0
  ·exact .inl hn
  ·rcases o5 with o5|⟨b,o,o5,o6⟩
   ·omega
   ·exact .inr ⟨b,o,by rw[hpl,if_neg hn];exact o5,o6⟩
end
section
variable {T:Nat→Option TI} {P:Program} {cx:Cx} {v:List AV} {r:Rs} {a:Act} {w:World} {β:Nat→Nat→Pl}
def zej (n:Nat) (ks:List Nat) (nw:Nat→List Value) (V:Res):G:=⟨zn7 n (0::ks),(0,{next:=1,l:=[some V]})::zhv nw ks⟩
def zvq (V:Res) (g:G):Prop:=∃ds:List D,g.v[0]? =some (.one (.ptr ⟨0,0,0⟩ 0))∧getR g.r ⟨0,0,0⟩=some V∧V.var=true∧V.cells=ds.map C.d
def zth (T:Nat→Option TI) (rvs:List ResultVar) (n:Nat) (ks:List Nat) (sz:Nat→Nat) (nw:Value→Nat→List Value) (Px:Value→Prop) (post:List RF→List (List RO)→Prop) (e:Ex) (g:G):Prop:=
 match e with
 | .normal=>closeA T rvs [.o 0] post g
 | .ret=>closeA T rvs [.o 0] post g
 | .exit _=>False
 | .panic x=>Px x∧g.v.length=n∧zfI sz g ks∧∃V,zvq V g∧closeA T rvs [.o 0] post (zej n ks (nw x) V)
theorem zfy {rvs:List ResultVar} {n:Nat} {ks:List Nat} {sz:Nat→Nat} {nw:Value→Nat→List Value} {Px:Value→Prop} {post:List RF→List (List RO)→Prop} {g:G}:zth T rvs n ks sz nw Px post .ret g=closeA T rvs [.o 0] post g:=rfl
theorem zmb {rvs:List ResultVar} {n:Nat} {ks:List Nat} {sz:Nat→Nat} {nw:Value→Nat→List Value} {Px:Value→Prop} {post:List RF→List (List RO)→Prop} {g:G} {x:Value}:
  zth T rvs n ks sz nw Px post (.panic x) g=(Px x∧g.v.length=n∧zfI sz g ks∧∃V,zvq V g∧closeA T rvs [.o 0] post (zej n ks (nw x) V)):=rfl
theorem zti (h:Holds cx ⟨v,r⟩ a w β) {ks:List Nat} {sz:Nat→Nat} {nw:Nat→List Value} {bl:Nat→Nat} {w':World} {V:Res} {b0:Nat} (h0:0 ∉ ks) (hob:∀k∈ks,(k,bl k)∈cx.Obj) (hob0:(0,b0)∈cx.Obj)
  (hkp:zfI sz ⟨v,r⟩ ks) (hV:zvq V ⟨v,r⟩) (hobj:∀p b,(p,b)∈cx.Obj→p=0∧b=b0∨p∈ks∧b=bl p) (hrow:cx.Row=[]) (hsz:w.heap.size≤w'.heap.size)
  (hold:∀b,b<w.heap.size→(∀k∈ks,bl k≠b)→w'.heap[b]? =w.heap[b]?)
  (hnw:∀k∈ks,∃e,w'.heap[bl k]? =some (.cells (nw k).toArray e (0,0))∧∀u∈nw k,flat u=true) (hos:w'.os=w.os) (hout:w'.output=w.output):
  HoldsE cx (zej v.length ks nw V) a w':=by
 obtain⟨ds,v1,v2,v3,v4⟩:=hV
 simp only at v1 v2
 obtain⟨vl,ve⟩:=zad v2
 simp only at vl ve
 have hb0:=(h.ob 0 b0 hob0).2 V v2
 have hVok:=(h.rs _ _ _ vl).1
 unfold ResOK at hVok
 rw[if_pos v3]at hVok
 obtain⟨vf,b0',c0,e0,k1,k2,k3,k4⟩:=hVok
 rw[hb0]at k1
 cases k1
 have hbase:∀k∈ks,(β k 0).base=some (bl k,0)∧∃res,lookR r k 0=some res∧res.fz=false∧res.bor=false:=fun k hk=>by
  obtain⟨res,g1,g2,g3,g4,_⟩:=zb8 hkp k hk
  refine⟨(h.ob k (bl k) (hob k hk)).2 res g2,res,(zad g2).1, ?_,g4⟩
  have:=(h.rs _ _ _ (zad g2).1).1
  unfold ResOK at this
  rw[if_pos g3]at this
  exact this.1
 have hne:∀k∈ks,bl k≠b0:=fun k hk hb=>by
  obtain⟨q1,res,q2,q3,_⟩:=hbase k hk
  rw[hb]at q1
  have:=(h.inj _ _ _ _ _ _ _ _ _ q2 q3 vl vf q1 hb0).1
  subst this
  exact h0 hk
 have hlk:∀{s j res},lookR (zej v.length ks nw V).r s j=some res→(s=0∧j=0∧res=V)∨(s∈ks∧j=0∧res={e:=0,var:=true,fz:=false,sz:=0,cells:=(nw s).map fun x=> .d (.v x)}):=fun {s j res} hl=>by
  by_cases hs:s=0
  ·subst hs
   simp only[zej,lookR,findR,if_true]at hl
   cases j with
   |zero=>simp at hl;exact .inl ⟨rfl,rfl,hl.symm⟩
   |succ j=>simp at hl
  ·right
   have:lookR (zhv nw ks) s j=some res:=by
    simp only[zej,lookR,findR,if_neg (Ne.symm hs)]at hl
    exact hl
   exact zdK this
 have hnx0:nxt (zej v.length ks nw V).r 0=1:=by simp[nxt,zej,findR]
 have hnxk:∀k∈ks,nxt (zej v.length ks nw V).r k=1:=fun k hk=>by
  have hk0:(0:Nat)≠k:=fun e=>h0 (e▸hk)
  simp only[nxt,zej,findR,if_neg hk0]
  rw[zer hk]
 have hOB:∀b,Av cx (zej v.length ks nw V).r β b→Av cx r β b:=fun b hb=>by
  rcases hb with hb|⟨s,j,res,o,hl,hf,hb⟩
  ·exact .inl hb
  ·rcases hlk hl with⟨rfl,rfl,rfl⟩|⟨hk,rfl,rfl⟩
   ·exact .inr ⟨0,0,_,o,vl,hf,hb⟩
   ·obtain⟨_,res1,p2,p3,_⟩:=hbase s hk
    exact .inr ⟨s,0,res1,o,p2,p3,hb⟩
 have hstb:Stb w (Av cx r β) w' (Av cx (zej v.length ks nw V).r β):=⟨fun b hb hn=>hold b hb fun k hk hkb=>hn (by
  obtain⟨q1,res,q2,q3,_⟩:=hbase k hk
  exact .inr ⟨k,0,res,0,q2,q3,by rw[←hkb];exact q1⟩),fun b _ hA=>hOB b hA⟩
 have hlt0:b0<w.heap.size:=by
  rcases Nat.lt_or_ge b0 w.heap.size with hb|hb
  ·exact hb
  ·rw[Array.getElem?_eq_none hb]at k2;cases k2
 have hcells:∀{cs:List C} {us:List Value},(∃ds:List D,cs=ds.map C.d)→ReCs cx w r β cs us→ReCs cx w' (zej v.length ks nw V).r β cs us:=by
  intro cs
  induction cs with
  |nil=>intro us _ hu;simpa[ReCs]using hu
  |cons x cs ih=>
   intro us hc hu
   obtain⟨ds,hc⟩:=hc
   cases ds with
   |nil=>cases hc
   |cons y ds=>
    cases hc
    simp only[ReCs]at hu⊢
    obtain⟨u,us',rfl,g1,g2⟩:=hu
    exact⟨u,us',rfl,by simp only[ReC]at g1⊢;exact g1.stb hstb,ih ⟨ds,rfl⟩ g2⟩
 refine⟨β,⟨?_,h.df,fun i x hi=> ?_,fun s j res hl=> ?_,fun s j res s' j' res' b o o' hl hf hl' hf' hb hb'=> ?_,fun s j res b o hl hf hb=> ?_,Nat.le_trans h.n0 hsz,fun b hb hn=> ?_,h.a0,h.bor,fun p b hm=> ?_,fun p n u hm=> ?_,hos.trans h.os,hout.trans h.out⟩⟩
 ·rw[h.sz];simp[zej,zn7]
 ·have hi2:=hi
  simp only[zej,zn7,List.getElem?_map]at hi
  cases hr:(List.range v.length)[i]? with
  |none=>rw[hr]at hi;cases hi
  |some i'=>
   rw[hr]at hi
   obtain⟨hlt,rfl⟩:=List.getElem?_eq_some_iff.1 hr
   simp only[List.length_range]at hlt
   simp only[List.getElem_range,Option.map_some,Option.some.injEq]at hi
   by_cases hc:(0::ks).contains i=true
   ·rw[if_pos hc]at hi
    subst hi
    have hk:i=0∨i∈ks:=by simpa using hc
    rcases hk with rfl|hk
    ·obtain⟨u,e1,e2⟩:=h.sl 0 _ v1
     refine⟨u,e1, ?_⟩
     simp only[ReA,ReC]at e2⊢
     exact⟨e2.1,by rw[hnx0];exact Nat.one_pos,fun res' hg=>e2.2.2 V v2⟩
    ·obtain⟨res,g1,g2,_⟩:=zb8 hkp i hk
     obtain⟨u,e1,e2⟩:=h.sl i _ g1
     refine⟨u,e1, ?_⟩
     simp only[ReA,ReC]at e2⊢
     exact⟨e2.1,by rw[hnxk i hk];exact Nat.one_pos,fun res' hg=>e2.2.2 res g2⟩
   ·rw[if_neg hc]at hi
    subst hi
    obtain⟨u,hu⟩:∃u,a.tmps[i]? =some u:=⟨a.tmps[i]'(by have:=h.sz;simp only at this;omega),Array.getElem?_eq_getElem _⟩
    exact⟨u,hu,by simp[ReA,ReC]⟩
 ·rcases hlk hl with⟨rfl,rfl,rfl⟩|⟨hk,rfl,rfl⟩
  ·refine⟨?_,by rw[hnx0,ve];exact Nat.one_pos⟩
   unfold ResOK
   rw[if_pos v3]
   exact⟨vf,b0,c0,e0,hb0,by rw[hold b0 hlt0 hne];exact k2,hcells ⟨ds,v4⟩ k3,k4⟩
  ·obtain⟨e,g1,g2⟩:=hnw s hk
   refine⟨?_,by rw[hnxk s hk];exact Nat.one_pos⟩
   unfold ResOK
   rw[if_pos rfl]
   exact⟨rfl,bl s,_,e,(hbase s hk).1,g1,zgi g2,fun u hu=>g2 u (by simpa using hu)⟩
 ·have old:∀{s j res},lookR (zej v.length ks nw V).r s j=some res→∃res1,lookR r s j=some res1∧res1.fz=false:=fun {s j res} hl=>by
   rcases hlk hl with⟨rfl,rfl,rfl⟩|⟨hk,rfl,rfl⟩
   ·exact⟨_,vl,vf⟩
   ·obtain⟨_,res1,p2,p3,_⟩:=hbase s hk
    exact⟨res1,p2,p3⟩
  obtain⟨res1,p1,p2⟩:=old hl
  obtain⟨res2,p3,p4⟩:=old hl'
  exact h.inj _ _ _ _ _ _ _ _ _ p1 p2 p3 p4 hb hb'
 ·rcases hlk hl with⟨rfl,rfl,rfl⟩|⟨hk,rfl,rfl⟩
  ·exact h.fr _ _ _ _ _ vl vf hb
  ·obtain⟨res1,p1,p2,p3⟩:=(hbase s hk).2
   have:=h.fr _ _ _ _ _ p1 p2 hb
   exact⟨this.1,fun _=>this.2 p3⟩
 ·rw[hold b (Nat.lt_of_lt_of_le hb h.n0) fun k hk hkb=> ?_]
  ·exact h.old b hb hn
  ·obtain⟨hb1,res1,p1,p2,_⟩:=hbase k hk
   rcases(h.fr _ _ _ _ _ p1 p2 hb1).1 with h1|h1
   ·omega
   ·rw[hkb]at h1;exact hn h1
 ·rcases hobj p b hm with⟨rfl,rfl⟩|⟨hk,rfl⟩
  ·exact⟨by rw[hnx0];exact Nat.one_pos,fun _ _=>hb0⟩
  ·exact⟨by rw[hnxk p hk];exact Nat.one_pos,fun _ _=>(hbase p hk).1⟩
 ·rw[hrow]at hm;simp at hm
theorem zre {A0 Bor:Nat→Prop} {γ:Nat→Pl} {l0:List RO} {xs:List AV} {bs:List Hold} {us:List Value} (h:zau P w A0 Bor γ 0 (.obj l0::xs.map Arg.f) bs us):
  ∃b0,bs=[.blk b0]∧objPos 0 (.obj l0::xs.map Arg.f)=[.o 0]∧zbv [.o 0] bs=[(0,b0)]∧rowsOf [.o 0] bs=[]:=by
 simp only[zau]at h
 obtain⟨b,bs',us',c,e,_,rfl,_,_,_,_,h⟩:=h
 obtain⟨rfl,hp⟩:=znf (p:=1) h
 exact⟨b,rfl,by simp only[objPos,hp],rfl,rfl⟩
theorem zjl (hT:TOK P T) (hm:P.follows .mixedOrders=true) {f fc:FuncId} {fn:Func} {i0 i1 tq n:Nat} {ops0:Array Oper} {mf df:Oper} {ts:Array TypeId} {rest:Code} {rvs:List ResultVar} {ks:List Nat}
  (hf:P.funcs[f]? =some fn) (hb:fn.body=some (.seq (.region i0 ops0 false) (.seq (.region i1 #[mf,df] false) rest)))
  (hres:fn.results=rvs.toArray) (hn:fn.ntmps=n) (hcall:∀(us:Array Value) (w:World),(callFunc f us).run P w= .ok (.enter f us) w)
  (hcallc:∀(us:Array Value) (w:World),(callFunc fc us).run P w= .ok (.enter fc us) w)
  (hmf:mf.op= .makeFunc (.func fc) #[] (ks.map Operand.tmp).toArray) (hmd:mf.dst=some tq) (hmg:mf.guard=none)
  (hdf:df.op= .defer ⟨.value (.tmp tq), #[],ts⟩) (hdd:df.dst=none) (hdg:df.guard=none) (hks:tq ∉ ks) (htq:tq<n) (hk0:0 ∉ ks)
  {l0:List RO} {xs:List AV} {post:List RF→List (List RO)→Prop} {sz:Nat→Nat} {nw:Value→Nat→List Value} {Px:Value→Prop} (hidle:zro P fc ks.length) (hcatch:zne P fc ks sz nw Px)
  (G0:G) (h0:awp T P (.region i0 ops0 false) (openG n (.obj l0::xs.map Arg.f)) (zqY (fun g=>Gh g G0) fun _ _=>False)) (hG0:zfI sz G0 ks) (hl0:G0.v.length=n)
  (h1:awp T P rest ⟨G0.v.set tq (.one .dead),G0.r⟩ (zth T rvs n ks sz nw Px post)):CallOK P f (.obj l0::xs.map Arg.f) post:=by
 refine⟨hcall,fun w A0 Bor γ bs us hA hB ha hnb hnd hap=> ?_⟩
 obtain⟨b0,hbs,hpos,hob0,hrw0⟩:=zre ha
 refine calls_of_wp_defers hf hb ?_
 have hop:=zcH (n:=n) ha hA hB hnb hnd hap
 have hact:({tmps:=us.toArray++Array.replicate (fn.ntmps - us.toArray.size) undef,defers:=[]}:Act)={tmps:=us.toArray++Array.replicate (n - us.length) undef,defers:=[]}:=by rw[hn];simp
 rw[hact]
 have hnx0:∀{g:G} {a:Act} {w1:World} {β:Nat→Nat→Pl},Holds (cxO P w A0 Bor (.obj l0::xs.map Arg.f) bs) g a w1 β→0<nxt g.r 0∧∀res,getR g.r ⟨0,0,0⟩=some res→(β 0 0).base=some (b0,0):=fun {g a w1 β} hh=>hh.ob 0 b0 (by simp only[hpos,hob0];simp)
 refine wp_seq (zen (cx:=cxO P w A0 Bor (.obj l0::xs.map Arg.f) bs) hT hm _ _ _ _ (fun e g a w1 hh hq=> ?_) h0 _ _ ⟨_,hop⟩)
 cases e with
 |exit id=>exact hq.elim
 |ret=>exact hq.elim
 |panic x=>exact hq.elim
 |normal=>
  obtain⟨β1,hh1⟩:=(show Gh g G0 from hq) _ _ _ hh
  obtain⟨v0,r0⟩:=G0
  simp only at hl0 h1
  -- where the results' cells lie
  let bl:Nat→Nat:=fun k=>match (β1 k 0).base with|some (b,_)=>b|none=>0
  have hbl:∀k∈ks,(β1 k 0).base=some (bl k,0)∧a.tmps[k]? =some (zdm (bl k))∧0<nxt r0 k∧∃res,lookR r0 k 0=some res∧res.e=0:=fun k hk=>by
   obtain⟨res,g1,g2,g3,g4,g5⟩:=zb8 hG0 k hk
   obtain⟨hl,he⟩:=zad g2
   have hok:=(hh1.rs _ _ _ hl).1
   unfold ResOK at hok
   rw[if_pos g3]at hok
   obtain⟨_,b,c,e,k1,_⟩:=hok
   simp only at k1
   obtain⟨u,e1,e2⟩:=hh1.sl k _ g1
   simp only[ReA,ReC]at e2
   obtain⟨_,e3,e4⟩:=e2
   obtain⟨b',o',e5,e6⟩:=e4 res g2
   rw[k1]at e5
   cases e5
   refine⟨by simp only[bl];rw[k1], ?_,e3,res,hl,he⟩
   rw[e1,e6]
   simp only[bl,k1]
  let d:Deferred:={target:= .fn (.func fc) (ks.map fun k=>zdm (bl k)).toArray,args:= #[]}
  let cx1:Cx:={P,w0:=w,A0,Bor,Obj:=(0,b0)::ks.map fun k=>(k,bl k),ds:=[d]}
  have hcaps:((ks.map Operand.tmp).toArray).map a.eval=(ks.map fun k=>zdm (bl k)).toArray:=by
   simp only[List.map_toArray,List.map_map]
   congr 1
   refine List.map_congr_left fun k hk=> ?_
   simp only[Function.comp_apply,Act.eval]
   have:=(hbl k hk).2.1
   simp[Array.getD_eq_getD_getElem?,this]
  have hdf0:a.defers=[]:=hh1.df
  -- the closure is made,and deferred
  refine wp_seq (wp_region ?_)
  have hrg:List.range (#[mf,df]:Array Oper).size=[0,1]:=rfl
  rw[hrg,wpOps_cons]
  have hi0:([mf,df]:List Oper).toArray[0]? =some mf:=rfl
  have hi1:([mf,df]:List Oper).toArray[1]? =some df:=rfl
  refine za6 (cx:=cx1) (all:=[mf,df]) hi0 (zbU hmg) ?_
  unfold Oper.wp
  have hr0:(execOp a.eval mf).run P w1= .ok (.value (.func (.func fc) #[] (ks.map fun k=>zdm (bl k)).toArray)) w1:=by
   simp[execOp,hmf,hcaps,Instr.makeFunc]
  rw[hr0,Oper.upon_value,hmd,wpOps_cons]
  refine za6 (cx:=cx1) (all:=[mf,df]) hi1 (zbU hdg) ?_
  unfold Oper.wp
  have hsz:a.tmps.size=n:=by rw[hh1.sz];exact hl0
  have hev:(a.put (some tq) (.func (.func fc) #[] (ks.map fun k=>zdm (bl k)).toArray)).eval (.tmp tq)= .func (.func fc) #[] (ks.map fun k=>zdm (bl k)).toArray:=by
   simp[Act.eval,Act.put,hsz,htq]
  have hr1:(execOp (a.put (some tq) (.func (.func fc) #[] (ks.map fun k=>zdm (bl k)).toArray)).eval df).run P w1= .ok (.defer d) w1:=by
   simp only[execOp,hdf,resolve,hev]
   simp[Deferred.ofValue,d]
  rw[hr1,Oper.upon_defer,hdd]
  simp only[wpOps]
  show rest.wp P _ _ w1
  have hh2:Holds cx1 ⟨v0.set tq (.one .dead),r0⟩ ({(a.put (some tq) (.func (.func fc) #[] (ks.map fun k=>zdm (bl k)).toArray))with defers:=d::(a.put (some tq) (.func (.func fc) #[] (ks.map fun k=>zdm (bl k)).toArray)).defers}.put none undef) w1 β1:=by
   refine⟨?_, ?_,fun i x hi=> ?_,fun s j res hl=>⟨(hh1.rs s j res hl).1.dfx,(hh1.rs s j res hl).2⟩,hh1.inj,hh1.fr,hh1.n0,hh1.old,hh1.a0,hh1.bor,fun p b hm=> ?_,fun p q u hm=>by simp[cx1]at hm,hh1.os,hh1.out⟩
   ·simp[Act.put,hsz,hl0]
   ·simp[Act.put,hdf0,cx1]
   ·simp only[List.getElem?_set]at hi
    by_cases hi':tq=i
    ·subst hi'
     rw[if_pos rfl,if_pos (by rw[hl0];exact htq)]at hi
     cases hi
     exact⟨_,by simp only[Act.put];rw[Array.getElem?_setIfInBounds_self];rw[if_pos (by rw[hsz];exact htq)],by simp[ReA,ReC]⟩
    ·rw[if_neg hi']at hi
     obtain⟨u,e1,e2⟩:=hh1.sl i x hi
     refine⟨u, ?_,e2.dfx⟩
     simp only[Act.put]
     rw[Array.getElem?_setIfInBounds_ne hi']
     exact e1
   ·simp only[cx1,List.mem_cons,List.mem_map]at hm
    rcases hm with hm|⟨k,hk,hm⟩
    ·injection hm with e1 e2
     subst e1 e2
     have:=hnx0 hh1
     exact this
    ·injection hm with e1 e2
     subst e1 e2
     obtain⟨q1,_,q3,_⟩:=hbl k hk
     exact⟨q3,fun _ _=>q1⟩
  refine zen (cx:=cx1) hT hm rest _ _ _ (fun e g a' w' hh hq=> ?_) h1 _ _ ⟨β1,hh2⟩
  have hobk:∀k∈ks,(k,bl k)∈cx1.Obj:=fun k hk=>List.mem_cons_of_mem _ (List.mem_map.2 ⟨k,hk,rfl⟩)
  have hdf1:a'.defers=[d]:=by obtain⟨β',hh⟩:=hh;exact hh.df
  have hsize1:w.heap.size≤w'.heap.size:=by obtain⟨β',hh⟩:=hh;exact hh.n0
  have hinv:(invoke d.target d.args).run P w'= .ok (.enter fc (ks.map fun k=>zdm (bl k)).toArray) w':=by
   simp only[d,invoke]
   have:=hcallc (ks.map fun k=>zdm (bl k)).toArray w'
   simpa using this
  -- the frame's own word of its objects
  have hback:∀{g:G} {w2:World} {a2:Act},HoldsE cx1 g a2 w2→HoldsE (cxO P w A0 Bor (.obj l0::xs.map Arg.f) bs) g {a2 with defers:=[]} w2:=fun {g w2 a2} ⟨β',hg⟩=>by
   have he:cxO P w A0 Bor (.obj l0::xs.map Arg.f) bs={cx1 with Obj:=[(0,b0)],Row:=[],ds:=[]}:=by
    simp only[cxO,hpos,hob0,hrw0,cx1]
   rw[he]
   exact⟨β',⟨hg.sz,rfl,fun i x hi=>by obtain⟨u,e1,e2⟩:=hg.sl i x hi;exact⟨u,e1,e2.dfx⟩,fun s j res hl=>⟨(hg.rs s j res hl).1.dfx,(hg.rs s j res hl).2⟩,hg.inj,hg.fr,hg.n0,hg.old,hg.a0,hg.bor,
    fun p b hm=>hg.ob p b (by simp only[List.mem_singleton]at hm;simp only[cx1,List.mem_cons];exact .inl hm),fun p q u hm=>by simp at hm,hg.os,hg.out⟩⟩
  have hend:∀{g:G},HoldsE cx1 g a' w'→closeA T rvs [.o 0] post g→Leaves P fn a'.tmps (fun e w'=>∃rfs objs u,post rfs objs∧e= .returned u∧Ret w A0 Bor w' bs rfs objs u) [d] .returning w':=fun {g} hg hq=>by
   refine leaves_cons (by simp) hinv ((hidle _ w' (by simp)).mono ?_)
   rintro e u' w'' ⟨rfl,rfl,hp⟩
   obtain⟨v1,r1⟩:=g
   obtain⟨β',hg⟩:=hg
   obtain⟨_,val,q1,q2⟩:=zmi hT hres ha (hback ⟨β',zhD hg hp⟩) (by rw[hpos];exact hq)
   exact⟨val,q1,q2⟩
  cases e with
  |exit id=>exact hq.elim
  |normal=>
   show Leaves P fn a'.tmps _ a'.defers .returning w'
   rw[hdf1]
   exact hend hh hq
  |ret=>
   show Leaves P fn a'.tmps _ a'.defers .returning w'
   rw[hdf1]
   exact hend hh hq
  |panic x=>
   obtain⟨hx,hlen,hkp,V,hV,hq⟩:=hq
   show Leaves P fn a'.tmps _ a'.defers (.panicking [{v:=x,recovered:=false}]) w'
   rw[hdf1]
   obtain⟨v1,r1⟩:=g
   obtain⟨β',hg⟩:=hh
   have hblk:∀k∈ks,(β' k 0).base=some (bl k,0)∧∃res,lookR r1 k 0=some res∧res.fz=false∧∃c e,w'.heap[bl k]? =some (.cells c e (0,0))∧c.size=sz k∧∀u∈c.toList,flat u=true:=fun k hk=>by
    obtain⟨res,g1,g2,g3,g4,g5⟩:=zb8 hkp k hk
    obtain⟨hl,he⟩:=zad g2
    have hok:=(hg.rs _ _ _ hl).1
    unfold ResOK at hok
    rw[if_pos g3]at hok
    obtain⟨q0,b,c,e,k1,k2,k3,k4⟩:=hok
    have hb1:=(hg.ob k (bl k) (hobk k hk)).2 res g2
    simp only at k1
    rw[hb1]at k1
    cases k1
    refine⟨hb1,res,hl,q0,c,e,k2, ?_,k4⟩
    rw[←g5,←Array.length_toList]
    exact zb1 k3
   refine leaves_cons (by simp) hinv ((hcatch x bl w' hx (fun k hk=>(hblk k hk).2.choose_spec.2.2) (fun k hk k' hk' hb=> ?_)).mono ?_)
   ·obtain⟨p1,res,p2,p3,_⟩:=hblk k hk
    obtain⟨p4,res',p5,p6,_⟩:=hblk k' hk'
    rw[hb]at p1
    exact(hg.inj _ _ _ _ _ _ _ _ _ p2 p3 p5 p6 p1 p4).1
   ·rintro e u' w'' ⟨rfl,rfl,s1,s2,s3,s4,s5⟩
    show Leaves P fn a'.tmps _ [] (settle (.panicking [{v:=x,recovered:=true}])) w''
    have hc:=zti (cx:=cx1) hg (nw:=nw x) (bl:=bl) (b0:=b0) hk0 hobk (by simp[cx1]) hkp hV (fun p b hm=>by
     simp only[cx1,List.mem_cons,List.mem_map]at hm
     rcases hm with hm|⟨k,hk,hm⟩
     ·cases hm
      exact .inl ⟨rfl,rfl⟩
     ·cases hm
      exact .inr ⟨hk,rfl⟩) rfl s1 s2 s3 s4 s5
    simp only at hc hlen
    rw[hlen]at hc
    obtain⟨_,val,q1,q2⟩:=zmi hT hres ha (hback hc) (by rw[hpos];exact hq)
    exact⟨val,q1,q2⟩
end
end Go.Pk
