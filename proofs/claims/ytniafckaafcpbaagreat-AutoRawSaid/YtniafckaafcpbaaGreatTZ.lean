import Derived.Test.YtniafckaafcpbaaGreatTY
import Derived.Test.YtniafckaafcpbaaGreatVS
namespace Go.Proofs.YtniafckaafcpbaaGreat
open Go.Pk
set_option linter.unusedSimpArgs false
set_option linter.unusedVariables false
abbrev shReq:Sh:= .struct [.int .i64, .int .i64, .struct [.int .i64, .int .i64, .str]]
abbrev shSess:Sh:= .struct [.int .i64, .int .i64, .int .i64]
abbrev shLk:Sh:= .struct [.str, .int .i64, .int .i64, .slice 8 (.int .i64)]
abbrev shGrant:Sh:= .struct [.str, .int .i64]
abbrev shReply:Sh:= .struct [.int .i64, .int .i64, .int .i64, .slice 24 shGrant]
abbrev shMemo:Sh:= .struct [.int .i64, .int .i64,shReply]
abbrev shState:Sh:= .struct [.int .i64, .int .i64, .int .i64, .slice 24 shSess, .slice 56 shLk, .slice 64 shMemo]
theorem zn8 (ds:List D) (h:ShD shReq ds):∃r:Req,ds=r.enc∧r.ok:=by
 simp only[ShD,ShDs]at h
 obtain⟨_,_,rfl,⟨c,rfl,hc⟩,_,_,rfl,⟨q,rfl,hq⟩,_,_,rfl,⟨_,_,rfl,⟨k,rfl,hk⟩,_,_,rfl,⟨n,rfl,hn⟩,_,_,rfl,⟨s,rfl,hs⟩,rfl⟩,rfl⟩:=h
 exact⟨⟨c,q,k,n,s⟩,rfl,zhR hc,zhR hq,zhR hk,zhR hn,Nat.lt_of_le_of_lt hs (by decide)⟩
theorem zdw {α:Type} {enc:α→List D} {ok:α→Prop} {s:Sh} {z:Nat} (h0:∀ds,ShD s ds→∃x,ds=enc x∧ok x) (ds:List D) (h:ShD (.slice z s) ds):∃l:List α,ds=[.sl l.length (l.flatMap enc)]∧∀x∈l,ok x:=by
 rw[ShD]at h
 obtain⟨xs,rfl,hx1,hx2⟩:=h
 obtain⟨l,l1,l2,l3⟩:=zlB h0 xs hx2
 exact⟨l,by rw[←l1,l2],l3⟩
theorem znd (ds:List D) (h:ShD shSess ds):∃x:Sess,ds=x.enc∧True:=by
 simp only[ShD,ShDs]at h
 obtain⟨_,_,rfl,⟨c,rfl,hc⟩,_,_,rfl,⟨q,rfl,hq⟩,_,_,rfl,⟨k,rfl,hk⟩,rfl⟩:=h
 exact⟨⟨c,q,k⟩,rfl,trivial⟩
theorem i_of (ds:List D) (h:ShD (.int .i64) ds):∃x:Int,ds=[iD x]∧True:=by
 obtain⟨x,h1,_⟩:=zcb ds h
 exact⟨x,h1,trivial⟩
theorem zmD (ds:List D) (h:ShD .str ds):∃x:ByteArray,ds=[sD x]∧x.size<2^62:=by
 simp only[ShD]at h
 obtain⟨n,rfl,hn⟩:=h
 have:=zn7
 exact⟨n,rfl,by omega⟩
theorem zoF (ds:List D) (h:ShD shLk ds):∃x:Lk,ds=x.enc∧x.name.size<2^62:=by
 rw[ShD]at h
 simp only[ShDs]at h
 obtain⟨_,_,rfl,h1,_,_,rfl,h2,_,_,rfl,h3,_,_,rfl,h4,rfl⟩:=h
 obtain⟨a,rfl,ha⟩:=zmD _ h1
 obtain⟨b,rfl,hb⟩:=zcb _ h2
 obtain⟨c,rfl,hc⟩:=zcb _ h3
 obtain⟨d,rfl,hd⟩:=zdw i_of _ h4
 exact⟨⟨a,b,c,d⟩,rfl,ha⟩
theorem zlC (ds:List D) (h:ShD shGrant ds):∃x:Grant,ds=x.enc∧x.name.size<2^62:=by
 rw[ShD]at h
 simp only[ShDs]at h
 obtain⟨_,_,rfl,h1,_,_,rfl,h2,rfl⟩:=h
 obtain⟨a,rfl,ha⟩:=zmD _ h1
 obtain⟨b,rfl,hb⟩:=zcb _ h2
 exact⟨⟨a,b⟩,rfl,ha⟩
theorem zlD (ds:List D) (h:ShD shReply ds):∃x:Reply,ds=x.enc∧∀g∈x.held,g.name.size<2^62:=by
 rw[ShD]at h
 simp only[ShDs]at h
 obtain⟨_,_,rfl,h1,_,_,rfl,h2,_,_,rfl,h3,_,_,rfl,h4,rfl⟩:=h
 obtain⟨a,rfl,ha⟩:=zcb _ h1
 obtain⟨b,rfl,hb⟩:=zcb _ h2
 obtain⟨c,rfl,hc⟩:=zcb _ h3
 obtain⟨d,rfl,hd⟩:=zdw zlC _ h4
 exact⟨⟨a,b,c,d⟩,rfl,hd⟩
theorem zne (ds:List D) (h:ShD shMemo ds):∃x:Memo,ds=x.enc∧∀g∈x.reply.held,g.name.size<2^62:=by
 rw[ShD]at h
 simp only[ShDs]at h
 obtain⟨_,_,rfl,h1,_,_,rfl,h2,_,_,rfl,h3,rfl⟩:=h
 obtain⟨a,rfl,ha⟩:=zcb _ h1
 obtain⟨b,rfl,hb⟩:=zcb _ h2
 obtain⟨c,rfl,hc⟩:=zlD _ h3
 exact⟨⟨a,b,c⟩,by simp[Memo.enc],hc⟩
theorem zlE (ds:List D) (h:ShD shState ds):∃s:St,ds=stE s∧NmS s:=by
 rw[ShD]at h
 simp only[ShDs]at h
 obtain⟨_,_,rfl,h1,_,_,rfl,h2,_,_,rfl,h3,_,_,rfl,h4,_,_,rfl,h5,_,_,rfl,h6,rfl⟩:=h
 obtain⟨a,rfl,ha⟩:=zcb _ h1
 obtain⟨b,rfl,hb⟩:=zcb _ h2
 obtain⟨c,rfl,hc⟩:=zcb _ h3
 obtain⟨d,rfl,hd⟩:=zdw znd _ h4
 obtain⟨e,rfl,he⟩:=zdw zoF _ h5
 obtain⟨f,rfl,hf⟩:=zdw zne _ h6
 exact⟨⟨a,b,c,d,e,f⟩,rfl,he,hf⟩
end Go.Proofs.YtniafckaafcpbaaGreat
