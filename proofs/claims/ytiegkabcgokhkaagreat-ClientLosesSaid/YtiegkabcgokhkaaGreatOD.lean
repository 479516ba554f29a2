import Derived.Test.YtiegkabcgokhkaaGreatOC
namespace Go.Proofs.YtiegkabcgokhkaaGreat
open Go.Pk
set_option maxRecDepth 100000
set_option linter.unusedSimpArgs false
set_option linter.unusedVariables false
def conf0:Conf:=⟨3,3,60,100,10,40,3,1,5,6,8⟩
def reps:List Int:=[3,1,5,3,7,3]
def confStep (c:Conf) (i:Nat) (n:Int):Conf:=
 match i with
 |0=>{c with replicas:=reps.getD (n % 6).toNat 0}
 |1=>{c with clients:=1+n % 5}
 |2=>{c with base:=1+n % 20}
 |3=>{c with cap:=c.base+n % 60}
 |4=>{c with beat:=1+n % 6}
 |5=>{c with wait:=n % 4}
 |6=>{c with sweep:=1+n % 9}
 |7=>{c with retry:=1+n % 9}
 |8=>{c with keep:=1+n % 12}
 |9=>{c with lease:=1+n}
 |_=>{c with rho:=n % 201}
def confI (ns:List Int):Nat→Conf
 |0=>conf0
 |i+1=>confStep (confI ns i) i (ns.getD i 0)
def confP (ns:List Int):Conf:=confI ns (min ns.length 11)
theorem zbt {n:Int}:ticksP n=true↔1≤n∧n≤1000000:=by unfold ticksP;simp
structure ConfIn (c:Conf):Prop where
 r:c.replicas=1∨c.replicas=3∨c.replicas=5∨c.replicas=7
 cl:1≤c.clients∧c.clients≤5
 lease:1≤c.lease∧c.lease≤256
 rho:0≤c.rho∧c.rho≤200
 base:1≤c.base∧c.base≤20
 cap:1≤c.cap∧c.cap≤79
 beat:1≤c.beat∧c.beat≤6
 wait:0≤c.wait∧c.wait≤3
 sweep:1≤c.sweep∧c.sweep≤9
 retry:1≤c.retry∧c.retry≤9
 keep:1≤c.keep∧c.keep≤12
theorem zmU (n:Int):reps.getD (n % 6).toNat 0=1∨reps.getD (n % 6).toNat 0=3∨reps.getD (n % 6).toNat 0=5∨reps.getD (n % 6).toNat 0=7:=by
 rcases(show n % 6=0∨n % 6=1∨n % 6=2∨n % 6=3∨n % 6=4∨n % 6=5 by omega)with h|h|h|h|h|h<;>rw[h]<;>decide
theorem zhs {c:Conf} (h:ConfIn c) {i:Nat} {n:Int} (hn:byteI n):ConfIn (confStep c i n):=by
 unfold byteI at hn
 obtain⟨h1,h2,h3,h4,h5,h6,h7,h8,h9,h10,h11⟩:=h
 unfold confStep
 split
 ·exact⟨zmU n,h2,h3,h4,h5,h6,h7,h8,h9,h10,h11⟩
 ·exact⟨h1,by simp only;omega,h3,h4,h5,h6,h7,h8,h9,h10,h11⟩
 ·exact⟨h1,h2,h3,h4,by simp only;omega,h6,h7,h8,h9,h10,h11⟩
 ·exact⟨h1,h2,h3,h4,h5,by simp only;omega,h7,h8,h9,h10,h11⟩
 ·exact⟨h1,h2,h3,h4,h5,h6,by simp only;omega,h8,h9,h10,h11⟩
 ·exact⟨h1,h2,h3,h4,h5,h6,h7,by simp only;omega,h9,h10,h11⟩
 ·exact⟨h1,h2,h3,h4,h5,h6,h7,h8,by simp only;omega,h10,h11⟩
 ·exact⟨h1,h2,h3,h4,h5,h6,h7,h8,h9,by simp only;omega,h11⟩
 ·exact⟨h1,h2,h3,h4,h5,h6,h7,h8,h9,h10,by simp only;omega⟩
 ·exact⟨h1,h2,by simp only;omega,h4,h5,h6,h7,h8,h9,h10,h11⟩
 ·exact⟨h1,h2,h3,by simp only;omega,h5,h6,h7,h8,h9,h10,h11⟩
theorem zlj:ConfIn conf0:=⟨.inr (.inl rfl),by decide,by decide,by decide,by decide,by decide,by decide,by decide,by decide,by decide,by decide⟩
theorem zeo {ns:List Int} (hn:∀n∈ns,byteI n):∀i,ConfIn (confI ns i)
 |0=>zlj
 |i+1=>zhs (zeo hn i) (by
   rw[List.getD_eq_getElem?_getD]
   cases h:ns[i]? with
   |none=>exact⟨by decide,by decide⟩
   |some x=>exact hn _ (List.mem_of_getElem? h))
theorem zkh {ns:List Int} (i:Nat) (h:i≤3):(confI ns i).cap=40:=by
 rcases(show i=0∨i=1∨i=2∨i=3 by omega)with rfl|rfl|rfl|rfl<;>rfl
theorem zht {c:Conf} {i:Nat} {n:Int} (hi:3≤i) (hn:byteI n) (h:c.base≤c.cap):(confStep c i n).base≤(confStep c i n).cap:=by
 unfold byteI at hn
 unfold confStep
 split<;>simp only<;>omega
theorem zii {ns:List Int} (hn:∀n∈ns,byteI n):∀i,(confI ns i).base≤(confI ns i).cap
 |0=>(by decide:conf0.base≤conf0.cap)
 |i+1=>by
  by_cases h:i+1≤3
  ·have hb:=(zeo hn (i+1)).base
   rw[zkh (i+1) h];omega
  ·refine zht (by omega) ?_ (zii hn i)
   rw[List.getD_eq_getElem?_getD]
   cases h:ns[i]? with
   |none=>exact⟨by decide,by decide⟩
   |some x=>exact hn _ (List.mem_of_getElem? h)
theorem zlk {ns:List Int} (hn:∀n∈ns,byteI n):ConfOk (confP ns):=by
 have h:=zeo hn (min ns.length 11)
 have hb:=zii hn (min ns.length 11)
 unfold confP
 obtain⟨h1,h2,h3,h4,h5,h6,h7,h8,h9,h10,h11⟩:=h
 exact⟨by omega,by omega,zbt.2 (by omega),zbt.2 (by omega),zbt.2 (by omega),zbt.2 (by omega),zbt.2 (by omega),zbt.2 (by omega),zbt.2 (by omega),by omega,hb,by omega⟩
end Go.Proofs.YtiegkabcgokhkaaGreat
