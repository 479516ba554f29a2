import Derived.Test.YtiegkabcgokhkaaGreatSE
namespace Go.Proofs.YtiegkabcgokhkaaGreat
open Go.Pk
set_option maxRecDepth 100000
set_option linter.unusedSimpArgs false
set_option linter.unusedVariables false
def nmL (j:Nat):ByteArray:=([⟨#[97]⟩,⟨#[98]⟩,⟨#[99]⟩,⟨#[100]⟩]:List ByteArray).getD j .empty
def gN (j:Nat):Grant:=⟨nmL j,1+(j:Int)⟩
abbrev namesD:List D:=[sD ⟨#[97]⟩,sD ⟨#[98]⟩,sD ⟨#[99]⟩,sD ⟨#[100]⟩]
def subL:Nat→List (List Grant)
 |0=>[[]]
 |i+1=>subL i++(subL i).map (·++[gN i])
def wantP (l:List Grant) (s:ByteArray):List Grant:=l.filter fun g=>g.name.toList !=s.toList
theorem zkp {K:Cl} {kind:Int} {name:ByteArray} (h:askOk kind name=true) (hl:K.asks.length<4):askQ K kind name=({K with asks:=K.asks++[⟨kind,0,name⟩]},0):=by
 unfold askQ
 rw[if_neg (by rw[h];simp),if_neg (by omega)]
abbrev homeC (s:Nat) (K:Cl):Nat×RS:=(s,{next:=2,l:=[some {e:=1,var:=true,fz:=false,sz:=0,cells:=[di K.c.replicas,di K.c.clients,di K.c.lease,di K.c.rho,di K.c.base,di K.c.cap,di K.c.beat,di K.c.wait,di K.c.sweep,di K.c.retry,di K.c.keep,
 di K.id,di K.session, .d (.sl K.has.length (grantsE K.has)),di K.till, .own ⟨s,16,1⟩ 0 K.asks.length,db K.busy,
 di K.out.client,di K.out.seq,di K.out.kind,di K.out.session,dS K.out.name,di K.first,db K.sent,di K.last,di K.seq,di K.turn]},none,none,none,none,none,none,none,none,none,none,none,none,none,none,none,
 some {e:=1,var:=false,fz:=false,sz:=3,cells:=(cmsE K.asks).map C.d},none,none,none,none,none,none,none,none,none,none,none]})
end Go.Proofs.YtiegkabcgokhkaaGreat
