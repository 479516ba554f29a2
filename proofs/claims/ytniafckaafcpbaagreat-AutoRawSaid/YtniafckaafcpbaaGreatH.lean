import Derived.Test.YtniafckaafcpbaaGreatG
namespace Go.Proofs.YtniafckaafcpbaaGreat
open Go.Pk
set_option linter.unusedSimpArgs false
set_option linter.unusedVariables false
def checkP {α:Type} (q:Nat→α→Bool):Nat→List α→Bool
 |_,[]=>true
 |i,x::r=>if q i x=true then checkP q (i+1) r else false
theorem zbu {α:Type} {q:Nat→α→Bool}:∀{l:List α} {i:Nat},checkP q i l=true↔∀j (hj:j<l.length),q (i+j) l[j]=true
 |[],i=>by simp[checkP]
 |x::l,i=>by
  rw[checkP]
  constructor
  ·intro h
   split at h
   ·rename_i hx
    intro j hj
    cases j with
    |zero=>exact hx
    |succ j=>
     have:=zbu.1 h j (by simpa using hj)
     simp only[List.getElem_cons_succ]
     rw[show i+(j+1)=i+1+j by omega];exact this
   ·cases h
  ·intro h
   have h0:=h 0 (by simp)
   simp only[List.getElem_cons_zero,Nat.add_zero]at h0
   rw[if_pos h0,zbu]
   intro j hj
   have:=h (j+1) (by simpa using hj)
   simp only[List.getElem_cons_succ]at this
   rw[show i+1+j=i+(j+1) by omega];exact this
theorem zaB {α:Type} {q:Nat→α→Bool} {l:List α} {i:Nat} (h:i<l.length):checkP q i (l.drop i)=if q i l[i]=true then checkP q (i+1) (l.drop (i+1))else false:=by
 rw[List.drop_eq_getElem_cons h,checkP]
theorem zbf {α:Type} {q:Nat→α→Bool} {l:List α} {i:Nat} (h:i=l.length):checkP q i (l.drop i)=true:=by
 rw[h,List.drop_length,checkP]
def okSess (s:Sess):Bool:=isClient s.client&& !(decide (s.num<1))&& !(decide (s.num>High))&& !(decide (s.renewed<0))&& !(decide (s.renewed>High))
def numbered (l:List Sess) (n:Int):Bool:=l.any fun x=>x.num==n
def prevS (l:List Sess) (i:Nat):Int:=(l[i - 1]?.map Sess.client).getD 0
def sessQ (l:List Sess) (i:Nat) (s:Sess):Bool:=okSess s&& !((decide (i>0)&&decide (prevS l i≥s.client))||numbered (l.take i) s.num)
def sessB (l:List Sess):Bool:= !(decide ((l.length:Int)>5))&&checkP (sessQ l) 0 l
def openP (l:List Sess) (c num now:Int):List Sess×Int:=
 if(!isClient c||decide (num<1)||decide (num>High)||decide (now<0)||decide (now>High)||(!(findS l c).isSome&&numbered l num)||((findS l c).isSome&&(((findS l c).map Sess.num).getD 0 !=num)&&numbered l num))=true then([],1)else
 if(findS l c).isSome=true then([],7)else if decide ((l.length:Int)≥5)=true then([],5)else(l.take (posS l c)++⟨c,num,now⟩::l.drop (posS l c),0)
def renewP (l:List Sess) (c now:Int):List Sess×Int:=
 if(decide (now<0)||decide (now>High))=true then([],1)else
 match findS l c with
 |none=>([],6)
 |some x=>(l.set (posS l c) ⟨x.client,x.num,max x.renewed now⟩,0)
def dueP (l:List Sess) (now lease:Int):List Int:=
 if(decide (now<0)||decide (now>High)||decide (lease<0)||decide (lease>High))=true then []else(l.filter fun s=>decide (now - s.renewed≥lease)).map Sess.client
def lineQ (l:List Int) (i:Nat) (c:Int):Bool:= !(!isClient c||hasI (l.take i) c)
def lineB (l:List Int):Bool:=checkP (lineQ l) 0 l&&decide ((l.length:Int)≤3)
def prevL (l:List Lk) (i:Nat):ByteArray:=(l[i - 1]?.map Lk.name).getD .empty
def okLk (k:Lk):Bool:=nameP k.name&& !(decide (k.holder<0))&& !(decide (k.holder≥8))&& !(decide (k.token<1))&& !(decide (k.token>High))
def lockQ (l:List Lk) (i:Nat) (k:Lk):Bool:=okLk k&& !(!lineB k.line||hasI k.line k.holder||(decide (i>0)&& !(bLess (prevL l i) k.name)))&& !((l.take i).any fun o=>o.token==k.token)
def lockB (l:List Lk):Bool:=checkP (lockQ l) 0 l&&decide ((l.length:Int)≤4)
def aheadP (l:List Int) (c:Int):Int:=if idxF (fun x=>c==x) l 0≥0 then idxF (fun x=>c==x) l 0 else 0
def takeP (l:List Lk) (name:ByteArray) (c token:Int) (wait:Bool):List Lk×Int×Int:=
 match findL l name with
 |none=>if decide ((l.length:Int)≥4)=true then([],0,5)else(l.take (posL l name)++⟨name,c,token+1,[]⟩::l.drop (posL l name),0,0)
 |some k=>if(k.holder==c)=true then([],0,7)else if(!wait)=true then([],0,8)else
  if hasI k.line c=true then(l,aheadP k.line c,10)else
  if(joinP k.line c).2.2≠0 then([],0,(joinP k.line c).2.2)else(l.set (posL l name) ⟨k.name,k.holder,k.token,(joinP k.line c).1⟩,(joinP k.line c).2.1,10)
def passP (l:List Lk) (i:Nat) (k:Lk) (token:Int):List Lk×Int:=
 match k.line with
 |[]=>(l.eraseIdx i,0)
 |c::rest=>(l.set i ⟨k.name,c,token+1,rest⟩,1)
def freeP (l:List Lk) (name:ByteArray) (c token:Int):List Lk×Int×Int:=
 match findL l name with
 |none=>([],0,6)
 |some k=>if(k.holder==c)=true then((passP l (posL l name) k token).1,(passP l (posL l name) k token).2,0)else
  if hasI k.line c=true then(l.set (posL l name) ⟨k.name,k.holder,k.token,(leaveP k.line c).1⟩,0,0)else([],0,6)
def dropR (gone:List Int) (token:Int):List Lk→Int→List Lk×Int
 |[],g=>([],g)
 |k::r,g=>if hasI gone k.holder=true then
   match k.line with
   |[]=>dropR gone token r g
   |c::rest=>(⟨k.name,c,token+g+1,rest⟩::(dropR gone token r (g+1)).1,(dropR gone token r (g+1)).2)
  else(k::(dropR gone token r g).1,(dropR gone token r g).2)
def lockWithout (gone:List Int) (k:Lk):Lk:=⟨k.name,k.holder,k.token,withoutP k.line gone⟩
def dropP (l:List Lk) (gone:List Int) (token:Int):List Lk×Int:=dropR gone token (l.map (lockWithout gone)) 0
def heldP (l:List Lk) (c:Int):List Grant:=(l.filter fun k=>k.holder==c).map fun k=>⟨k.name,k.token⟩
def prevG (l:List Grant) (i:Nat):ByteArray:=(l[i - 1]?.map Grant.name).getD .empty
def grantQ (l:List Grant) (i:Nat) (g:Grant):Bool:= !(!nameP g.name||decide (g.token<1)||decide (g.token>High)||(decide (i>0)&& !(bLess (prevG l i) g.name)))
def replyB (r:Reply):Bool:=
 !(decide (r.code<0)||decide (r.code>12)||decide (r.session<0)||decide (r.session>High)||decide (r.ahead<0)||decide (r.ahead>3))&&
 !(decide ((r.held.length:Int)>4)||((r.session==0)&&decide ((r.held.length:Int)>0)))&&checkP (grantQ r.held) 0 r.held
def answerB (m:Memo):Bool:=decide (m.client≥0)&&decide (m.client<8)&&decide (m.seq≥1)&&decide (m.seq≤High)&&replyB m.reply
def prevM (l:List Memo) (i:Nat):Int:=(l[i - 1]?.map Memo.client).getD 0
def memoQ (l:List Memo) (i:Nat) (m:Memo):Bool:= !(!answerB m||(decide (i>0)&&decide (prevM l i≥m.client)))
def memoB (l:List Memo):Bool:=checkP (memoQ l) 0 l
def freshP (l:List Memo) (c seq:Int):Int:=
 match findM l c with
 |none=>1
 |some m=>if m.seq<seq then 1 else if m.seq=seq then 0 else -1
def keepP (l:List Memo) (a:Memo):List Memo:=
 if(!answerB a||(freshP l a.client a.seq !=1))=true then l else
 if(findM l a.client).isSome=true then l.set (posM l a.client) a else l.take (posM l a.client)++a::l.drop (posM l a.client)
def within (n:Int):Bool:=decide (n≥0)&&decide (n≤High)
def seatedB (s:St):Bool:=s.locks.all fun k=>(k.holder::k.line).all fun c=>(findS s.sess c).isSome
def rightB (s:St):Bool:=within s.time&&within s.num&&within s.token&&sessB s.sess&&lockB s.locks&&memoB s.memos&&(s.sess.all fun x=>decide (x.num≤s.num))&&(s.locks.all fun k=>decide (k.token≤s.token))&&seatedB s
def withoutSt (s:St) (gone:List Int):St:=⟨s.time,s.num,s.token+(dropP s.locks gone s.token).2,s.sess.filter fun x=> !hasI gone x.client,(dropP s.locks gone s.token).1,s.memos⟩
def timeP (s:St) (time:Int):Int:=if(decide (time>s.time)&&decide (time≤High))=true then time else s.time
def advanceP (s:St) (time lease:Int):St:=withoutSt {s with time:=timeP s time} (dueP s.sess (timeP s time) (max lease 1))
def rpl (code session ahead:Int) (held:List Grant):Reply:=⟨code,session,ahead,held⟩
def openedP (s:St) (c:Int):St×Reply:=
 match findS s.sess c with
 |some x=>(s,⟨7,x.num,0,heldP s.locks c⟩)
 |none=>if(openP s.sess c (s.num+1) s.time).2≠0 then(s,⟨(openP s.sess c (s.num+1) s.time).2,0,0,[]⟩)else
  ({s with sess:=(openP s.sess c (s.num+1) s.time).1,num:=s.num+1},⟨0,s.num+1,0,heldP s.locks c⟩)
def doneP (s:St) (r:Req):St×Reply:=
 if(r.kind==1)=true then openedP s r.client else
 match findS s.sess r.client with
 |none=>(s,⟨9,0,0,[]⟩)
 |some x=>if(x.num !=r.session)=true then(s,⟨9,0,0,[]⟩)else
  let s1:St:={s with sess:=(renewP s.sess r.client s.time).1}
  if(r.kind==3||r.kind==4)=true then
   let t:=takeP s1.locks r.name r.client s1.token (r.kind==3)
   let s2:St:=if t.2.2=0 then {s1 with locks:=t.1,token:=s1.token+1}else if t.2.2=10 then {s1 with locks:=t.1}else s1
   (s2,⟨t.2.2,x.num,if t.2.2=10 then t.2.1 else 0,heldP s2.locks r.client⟩)
  else if(r.kind==5)=true then
   let t:=freeP s1.locks r.name r.client s1.token
   let s2:St:=if t.2.2=0 then {s1 with locks:=t.1,token:=s1.token+t.2.1}else s1
   (s2,⟨t.2.2,x.num,0,heldP s2.locks r.client⟩)
  else if(r.kind==6)=true then(withoutSt s1 [r.client],⟨0,0,0,[]⟩)
  else(s1,⟨0,x.num,0,heldP s1.locks r.client⟩)
def applyP (s:St) (r:Req):St×Reply×Bool:=
 if(!Req.may r)=true then(s,⟨1,0,0,[]⟩,false)else
 if freshP s.memos r.client r.seq= -1 then(s,⟨0,0,0,[]⟩,false)else
 if freshP s.memos r.client r.seq=0 then(s,((findM s.memos r.client).map Memo.reply).getD ⟨0,0,0,[]⟩,false)else
 ({(doneP s r).1 with memos:=keepP (doneP s r).1.memos ⟨r.client,r.seq,(doneP s r).2⟩},(doneP s r).2,true)
def goneP (a b:St):List Int:=(a.sess.filter fun x=> !((findS b.sess x.client).any fun y=>y.num==x.num)).map Sess.client
end Go.Proofs.YtniafckaafcpbaaGreat
