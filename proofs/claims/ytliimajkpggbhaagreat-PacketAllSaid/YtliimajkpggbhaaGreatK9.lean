import Derived.Test.YtliimajkpggbhaaGreatK8
set_option linter.unusedVariables false
set_option linter.unusedSimpArgs false
set_option linter.unusedSectionVars false
namespace Go.Pk
section
variable {T:Nat→Option TI} {P:Program} {cx:Cx} {v:List AV} {r:Rs} {a:Act} {w:World} {β:Nat→Nat→Pl}
end
section
variable {T:Nat→Option TI} {P:Program} {cx:Cx} {v:List AV} {r:Rs} {a:Act} {w:World} {β:Nat→Nat→Pl}
def zxA (n:Nat) (ks:List Nat) (nw:Nat→List Value) (V:Res):G:=⟨zr0 n (0::ks),(0,{next:=1,l:=[some V]})::ziX nw ks⟩
def zAW (V:Res) (g:G):Prop:=∃ds:List D,g.v[0]? =some (.one (.ptr ⟨0,0,0⟩ 0))∧getR g.r ⟨0,0,0⟩=some V∧V.var=true∧V.cells=ds.map C.d
def zAX (T:Nat→Option TI) (rvs:List ResultVar) (n:Nat) (ks:List Nat) (sz:Nat→Nat) (nw:Value→Nat→List Value) (Px:Value→Prop) (post:List RF→List (List RO)→Prop) (e:Ex) (g:G):Prop:=
 match e with
 | .normal=>closeA T rvs [.o 0] post g
 | .ret=>closeA T rvs [.o 0] post g
 | .exit _=>False
 | .panic x=>Px x∧g.v.length=n∧zh2 sz g ks∧∃V,zAW V g∧closeA T rvs [.o 0] post (zxA n ks (nw x) V)
end
end Go.Pk
