import Derived.Test.YtliimajkpggbhaaGreatK8
set_option linter.unusedVariables false
set_option linter.unusedSimpArgs false
set_option linter.unusedSectionVars false
namespace Go.Pk
section
variable {T:Nat→Option TI} {P:Program} {cx:Cx} {v:List AV} {r:Rs} {a:Act} {w:World} {β:Nat→Nat→Pl}
theorem Holds.again (h:Holds cx ⟨v,r⟩ a w β) {hd:Hd} {d n:Nat} {res:Res} {ds:List D} {u:Value} (hg:getR r hd=some res) (hf:res.fz=true)
  (hu:ReC cx w r β (.own hd 0 n) u) (hds:toDs (sub 0 n res.sz res.cells)=some ds):
  ∃β' ad cap,Holds cx ⟨v,setR d ⟨nxt r d+1,[none,some {e:=nxt r d,var:=false,fz:=true,sz:=res.sz,cells:=ds.map C.d}]⟩ r⟩ a w β'∧
   u= .slice ad n cap∧n≤cap∧ReC cx w (setR d ⟨nxt r d+1,[none,some {e:=nxt r d,var:=false,fz:=true,sz:=res.sz,cells:=ds.map C.d}]⟩ r) β' (.gap ⟨d,1,nxt r d⟩ 0 n n) (.slice ad n n):=by
 generalize hr':setR d ⟨nxt r d+1,[none,some {e:=nxt r d,var:=false,fz:=true,sz:=res.sz,cells:=ds.map C.d}]⟩ r=r'
 simp only[ReC]at hu
 obtain⟨_,_,hu⟩:=hu
 obtain⟨o1,o2,o3,ad,o4,o5⟩:=hu res hg
 rw[Nat.zero_mul,Nat.zero_add]at o2
 rw[Nat.zero_add]at o3
 rw[Nat.sub_zero]at o4 o5
 obtain⟨hl,he⟩:=zac hg
 obtain⟨hok,_⟩:=h.rs _ _ _ hl
 obtain⟨ds0,k1,k2,k3⟩:=hok.row o1
 have hds0:ds=ds0.take (n*res.sz):=by
  rw[k1,zda,zbu]at hds
  simpa using hds.symm
 have hlen:n*res.sz≤ds0.length:=by rw[k1,List.length_map]at o2;exact o2
 obtain⟨pl0,hpl⟩:∃pl0:Pl,pl0=if n=0 then⟨none,0⟩else⟨(β hd.s hd.j).base,n⟩:=⟨_,rfl⟩
 have hplb:∀b o,pl0.base=some (b,o)→(β hd.s hd.j).base=some (b,o):=fun b o hb=>by
  rw[hpl]at hb
  split at hb
  ·cases hb
  ·exact hb
 have hlook:∀j x,lookR r' d j=some x→j=1∧x={e:=nxt r d,var:=false,fz:=true,sz:=res.sz,cells:=ds.map C.d}:=fun j x hx=>by
  rw[←hr',zaz,if_pos rfl]at hx
  simp only at hx
  match j with
  |0=>simp at hx
  |1=>simp at hx;exact⟨rfl,hx.symm⟩
  |j+2=>simp at hx
 have hlook2:∀s j,s≠d→lookR r' s j=lookR r s j:=fun s j hs=>by rw[←hr',zaz,if_neg (Ne.symm hs)]
 have hnx:nxt r' d=nxt r d+1:=by rw[←hr',zaJ,if_pos rfl]
 have hnx2:∀s,s≠d→nxt r' s=nxt r s:=fun s hs=>by rw[←hr',zaJ,if_neg (Ne.symm hs)]
 let β':Nat→Nat→Pl:=fun s j=>if s=d then(if j=1 then pl0 else⟨none,0⟩)else β s j
 have hβ0:β' d 1=pl0:=by simp[β']
 have hβ1:∀s j,s≠d→β' s j=β s j:=fun s j hs=>by simp[β',hs]
 have hx:Ext cx w r β w r' β':=by
  refine⟨fun s=> ?_,fun hd res' hlt hg=> ?_,⟨fun b _ _=>rfl,fun b hb' hA=> ?_⟩,fun b _ _=>rfl,rfl,rfl⟩
  ·by_cases hs:s=d
   ·subst hs;rw[hnx];exact Nat.le_succ _
   ·rw[hnx2 s hs];exact Nat.le_refl _
  ·obtain⟨hl,hee⟩:=zac hg
   by_cases hs:hd.s=d
   ·rw[hs]at hl
    obtain⟨_,rfl⟩:=hlook _ _ hl
    rw[hs]at hlt
    simp only at hee
    omega
   ·rw[hlook2 _ _ hs]at hl
    exact⟨res',zao hl hee,hβ1 _ _ hs,rfl,rfl,Nat.le_refl _⟩
  ·rcases hA with hA|⟨s,j,res,o,hl,hf,hbs⟩
   ·exact .inl hA
   ·by_cases hs:s=d
    ·subst hs
     obtain⟨rfl,rfl⟩:=hlook _ _ hl
     cases hf
    ·rw[hlook2 _ _ hs]at hl
     rw[hβ1 _ _ hs]at hbs
     exact .inr ⟨s,j,res,o,hl,hf,hbs⟩
 have hcap:pl0.cap=n:=by rw[hpl];split<;>simp_all
 refine⟨β',ad,_,h.mk' hx (fun s j res2 hl=> ?_) (fun s j res s' j' res' b o o' hl hf hl' hf' hbs hbs'=> ?_) (fun s j res b o hl hf hbs=> ?_) (Nat.le_refl _),o4,o3, ?_⟩
 ·by_cases hs:s=d
  ·subst hs
   obtain⟨rfl,rfl⟩:=hlook _ _ hl
   rw[hβ0]
   refine⟨?_,by rw[hnx];exact Nat.lt_succ_self _⟩
   unfold ResOK
   rw[if_neg (by simp)]
   have hk2:RowM w (Av cx r' β') pl0 res.sz ds:=by
    have k2:=k2.stb hx.st (fun _ _ _=>rfl)
    unfold RowM at k2⊢
    cases hb:pl0.base with
    |none=>
     simp only
     by_cases hn:n=0
     ·subst hn
      exact⟨by rw[hds0];simp,hcap⟩
     ·rw[hpl,if_neg hn]at hb
      simp only at hb
      rw[hb]at k2
      simp only at k2
      omega
    |some p=>
     obtain⟨b,o⟩:=p
     rw[hplb b o hb]at k2
     obtain⟨c,e,m1,m2,m3,m4⟩:=k2
     refine⟨c,e,m1, ?_, ?_,fun k d hk=> ?_⟩
     ·rw[hcap]
      have:=Nat.mul_le_mul_right res.sz o3
      omega
     ·rw[hcap,hds0,List.length_take];exact Nat.min_le_left _ _
     ·refine m4 k d ?_
      rw[hds0,List.getElem?_take]at hk
      split at hk
      ·exact hk
      ·cases hk
   exact⟨ds,rfl,hk2,fun _ b o hb hA=>k3 hf b o (hplb b o hb) (hx.st.av b (hok.lt (hplb b o hb)) hA)⟩
  ·rw[hlook2 _ _ hs]at hl
   rw[hβ1 _ _ hs]
   obtain⟨g1,g2⟩:=h.rs s j res2 hl
   exact⟨g1.ext hx (fun b o hbs=>rfl) (fun b o hbs=>g1.lt hbs),by rw[hnx2 s hs];exact g2⟩
 ·by_cases hs:s=d
  ·subst hs
   obtain⟨rfl,rfl⟩:=hlook _ _ hl
   cases hf
  ·by_cases hs':s'=d
   ·subst hs'
    obtain⟨rfl,rfl⟩:=hlook _ _ hl'
    cases hf'
   ·rw[hlook2 _ _ hs]at hl
    rw[hlook2 _ _ hs']at hl'
    rw[hβ1 _ _ hs]at hbs
    rw[hβ1 _ _ hs']at hbs'
    exact h.inj _ _ _ _ _ _ _ _ _ hl hf hl' hf' hbs hbs'
 ·by_cases hs:s=d
  ·subst hs
   obtain⟨rfl,rfl⟩:=hlook _ _ hl
   cases hf
  ·rw[hlook2 _ _ hs]at hl
   rw[hβ1 _ _ hs]at hbs
   exact h.fr _ _ _ _ _ hl hf hbs
 ·simp only[ReC]
  refine⟨rfl,by rw[hnx];exact Nat.lt_succ_self _,by omega,ad,by rw[Nat.sub_zero],fun res' hg'=> ?_⟩
  obtain⟨hl',_⟩:=zac hg'
  obtain⟨_,rfl⟩:=hlook _ _ hl'
  refine⟨rfl,by rw[hβ0];exact hcap, ?_⟩
  rw[hβ0,Nat.sub_zero]
  by_cases hn:n=0
  ·exact .inl hn
  ·rcases o5 with o5|⟨b,o,o5,o6⟩
   ·omega
   ·exact .inr ⟨b,o,by rw[hpl,if_neg hn];exact o5,o6⟩
theorem zwc (hT:TOK P T) (hm:P.follows .mixedOrders=true) (k:Nat) {id d n t te:Nat} {ei:TI} {all:List Oper} {z:Code} {g:G} {Q:Ex→G→Prop} {o:Oper} {x h m:Operand}
  {v1:List AV} {r1 r2:Rs} {hd:Hd} {res:Res} {ds:List D} {k1 k2:IntKind}
  (ho:all[k]? =some o) (hop:o.op= .slice t x none (some h) (some m)) (hg:o.guard=none) (hdst:o.dst=some d)
  (h1:∀K:Ex→G→Prop,K .normal ⟨v1,r1⟩→aops T P all ⟨none,[]⟩ (all.take k) g.v g.r K)
  (s1:evS true v1 x) (s2:evS true v1 h) (s3:evS true v1 m) (e1:ev v1 x= .one (.own hd 0 n)) (e2:ev v1 h= .one (.d (.v (.int k1 n)))) (e3:ev v1 m= .one (.d (.v (.int k2 n))))
  (he:elemSz T t=some (te,ei)) (hs:sealC r1 (.own hd 0 n)=some (.sl n ds,r2)) (hr:getR r2 hd=some res) (hf:res.fz=true) (hds:toDs (sub 0 n res.sz res.cells)=some ds)
  (h2:aops T P all ⟨none,[]⟩ (all.drop (k+1)) (v1.set d (.one (.gap ⟨d,1,nxt r2 d⟩ 0 n n)))
   (setR d {next:=nxt r2 d+1,l:=[none,some {e:=nxt r2 d,var:=false,fz:=true,sz:=res.sz,cells:=ds.map C.d}]} r2) (zhP T P z Q)):
  zyH P (.seq (.region id all.toArray false) z) g Q:=fun cx hP R hR a w hh=>by
 subst hP
 refine wp_seq (wp_region ?_)
 have hk:k<all.length:=(List.getElem?_eq_some_iff.1 ho).1
 have hlen:(all.take k).length+(all.drop k).length=all.length:=by rw[←List.length_append,List.take_append_drop]
 have:=zfO (cx:=cx) (all:=all) (Q:=Exit.then (z.wp cx.P R) R) (K:=fun e g'=>match e with| .normal=>g'=⟨v1,r1⟩|_=>False) hT (fun x g a w _ hq=>hq.elim) (all.drop k) (all.take k) 0 ⟨none,[]⟩ g.v g.r a w
  (fun j=>by rw[List.take_append_drop,Nat.zero_add]) (h1 _ rfl) (fun g' a' w' hh' hf'=> ?_) hh
 ·rw[hlen]at this
  simpa[List.range_eq_range']using this
 ·have hf':g'=⟨v1,r1⟩:=hf'
  subst hf'
  obtain⟨β,hh'⟩:=hh'
  have hdl:(all.drop k).length=(all.drop (k+1)).length+1:=by rw[List.length_drop,List.length_drop];omega
  rw[Nat.zero_add,List.length_take,Nat.min_eq_left (Nat.le_of_lt hk),hdl,List.range'_succ,wpOps_cons]
  have hoa:all.toArray[k]? =some o:=by simpa using ho
  refine zbo hoa (zcp hg) ?_
  have hu:=zbC (c:=true) hh' rfl s1
  rw[e1]at hu
  simp only[ReA]at hu
  obtain⟨β1,q1,q2,_⟩:=zji hh' hs hu
  have hu:=hu.ext q2
  obtain⟨β2,ad,cap,p1,p2,p3,p4⟩:=q1.again (d:=d) hr hf hu hds
  have hb:=zj4 hh' rfl (lo:=none) (hi:=h) (mx:=m) (len:=n) (cap:=cap) (i:=0) (j:=n) (q:=n) trivial (by simpa only[evOS]using s2) (by simpa only[evOS]using s3)
   (by rfl) (by simp only[evO,e2,sliceB]) (by simp only[evO,e3,sliceB]) (by omega) (by omega) (by omega) (by omega)
  obtain⟨g1,g2,_⟩:=zbJ hT he w'
  refine zzm (x:= .one (.gap ⟨d,1,nxt r2 d⟩ 0 n n)) (r1:=setR d {next:=nxt r2 d+1,l:=[none,some {e:=nxt r2 d,var:=false,fz:=true,sz:=res.sz,cells:=ds.map C.d}]} r2)
   ⟨.value (.slice ad n n),w',β2, .slice ad n n, ?_, .inl rfl,p1,by simp only[ReA];exact p4⟩ (fun u w2 β3 hh3 hu3=> ?_)
  ·have had:(if n=0 then ad else ad.map (·.add 0))=ad:=by
    split
    ·rfl
    ·cases ad with
     |none=>rfl
     |some x=>simp[Addr.add]
   simp only[Option.map_none,Int.toNat_zero,Int.toNat_natCast]at hb
   simp[execOp,hop,Instr.sliceAt,Instr.slice,g1,g2,p2,hb,had]
  ·refine zeq (K:=zhP T cx.P z Q) hT (fun e g a w hg hq=>zpg hT hm hR hg hq) (all.drop (k+1)) (k+1) ⟨none,[]⟩ _ _ _ w2 (fun j=>by rw[List.getElem?_drop]) h2 ?_
   rw[hdst]
   have:=hh3.put (some d) hu3
   exact⟨β3,this⟩
end
section
variable {T:Nat→Option TI} {P:Program} {cx:Cx} {v:List AV} {r:Rs} {a:Act} {w:World} {β:Nat→Nat→Pl}
def zBW (n:Nat) (ks:List Nat) (nw:Nat→List Value) (V:Res):G:=⟨zwq n (0::ks),(0,{next:=1,l:=[some V]})::zkU nw ks⟩
def zEZ (V:Res) (g:G):Prop:=∃ds:List D,g.v[0]? =some (.one (.ptr ⟨0,0,0⟩ 0))∧getR g.r ⟨0,0,0⟩=some V∧V.var=true∧V.cells=ds.map C.d
def zE0 (T:Nat→Option TI) (rvs:List ResultVar) (n:Nat) (ks:List Nat) (sz:Nat→Nat) (nw:Value→Nat→List Value) (Px:Value→Prop) (post:List RF→List (List RO)→Prop) (e:Ex) (g:G):Prop:=
 match e with
 | .normal=>closeA T rvs [.o 0] post g
 | .ret=>closeA T rvs [.o 0] post g
 | .exit _=>False
 | .panic x=>Px x∧g.v.length=n∧zjR sz g ks∧∃V,zEZ V g∧closeA T rvs [.o 0] post (zBW n ks (nw x) V)
end
end Go.Pk
