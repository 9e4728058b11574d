import Derived.Test.YtbefcdjcefmicaaGreatKq0
namespace Go.Proofs.YtbefcdjcefmicaaGreat.En
set_option linter.unusedVariables false
set_option linter.unusedSimpArgs false
set_option maxRecDepth 100000
set_option maxHeartbeats 1600000
structure Op where
 kind:Nat
 key:Nat
 hi:Nat
 value:Nat
 deriving Repr,DecidableEq,Inhabited
structure Res where
 e:Nat:=0
 value:Nat:=0
 pairs:List (Nat×Nat):=[]
 over:Nat:=0
 reason:Nat:=0
 deriving Repr,DecidableEq,Inhabited
structure Ev where
 kind:Nat
 t:Nat
 n:Nat:=0
 op:Op:=⟨0,0,0,0⟩
 res:Res:={}
 deriving Repr,DecidableEq,Inhabited
structure Cel where
 own:Nat
 old:Nat
 there:Bool
 deriving Repr,DecidableEq,Inhabited
structure Txn where
 id:Nat
 level:Nat
 begin_:Nat
 end_:Nat
 ops:Nat
 keys:List Nat
 cells:List (Nat×Cel)
 reads:List (Nat×Nat×Bool)
 bonds:List Nat
 over:Bool
 deriving Repr,DecidableEq,Inhabited
inductive Thn where
 |get
 |scan (key:Nat)
 |change
 |judge (i link:Nat)
 deriving Repr,DecidableEq,Inhabited
structure Hunt where
 key:Nat
 at_:Nat
 thn:Thn
 deriving Repr,DecidableEq,Inhabited
structure Trn where
 at_:Nat
 old:Nat
 new:Nat
 deriving Repr,DecidableEq,Inhabited
inductive K where
 |fin (r:Res)
 |start (h:Hunt)
 |visit (h:Hunt) (link:Nat)
 |older (h:Hunt) (link:Nat)
 |maker (h:Hunt) (link id:Nat)
 |ended (h:Hunt) (link maybe_:Nat)
 |ender (h:Hunt) (link maybe_ id:Nat)
 |seen (h:Hunt) (link maybe_:Nat)
 |again (end_:Nat)
 |own (link:Nat)
 |ownTxn (link w id:Nat)
 |claim (link w:Nat)
 |fresh (link:Nat)
 |next (link head at_:Nat)
 |free (link head at_:Nat)
 |freeTxn (link head at_ id:Nat)
 |slotB (x:Bool) (link head:Nat)
 |slotE (x:Bool) (link head:Nat)
 |push (link head:Nat)
 |pushC (link head:Nat)
 |over (link:Nat)
 |overN (link head:Nat)
 |overC (link head:Nat)
 |draw
 |drawH (w now:Nat)
 |turn (w now:Nat)
 |helpJ
 |wait (i:Nat)
 |turns (l:List Trn) (r:Res)
 |commit
 |abort (e reason:Nat)
 deriving Repr,DecidableEq,Inhabited
structure Cal where
 op:Op
 k:Option K
 r:Res
 waits:Bool
 over:Bool
 seq:Nat
 deriving Repr,DecidableEq,Inhabited
inductive S where
 |live (s:Nat)
 |head (key:Nat)
 |visit (key ahead link:Nat)
 |maker (key ahead link id:Nat)
 |garbage (key ahead link begin_:Nat)
 |on (key link:Nat)
 |unlink (key ahead link:Nat)
 |cut (key ahead link next:Nat)
 |now
 deriving Repr,DecidableEq,Inhabited
structure St where
 slots:Nat
 limit:Nat
 words:List Nat
 count:Nat
 tags:List (Nat×Bool)
 free:List Nat
 worn:Nat
 listed:Bool
 values:List (Nat×Nat)
 txns:List (Option Txn)
 calls:List (Option Cal)
 made:Nat
 seq:Nat
 looks:Nat
 tale:List Ev
 sw:Option S
 low:Nat
 cut:List (Nat×Nat)
 cuts:Nat
 deriving Repr,DecidableEq,Inhabited
def ever:Nat:=2305843009213693952
def txnBit:Nat:=4611686018427387904
def tm:Nat:=1099511627776
def rd (w:Nat):Nat×Nat:=
 if w≤tm then (1,w) else if w=ever then (3,0) else if txnBit<w∧w≤txnBit+65535 then (2,w - txnBit) else (0,0)
def slotOf (link:Nat):Nat:=link % 131072 - 1
def wslot (link w:Nat):Nat:=73+slotOf link*3+w
def St.place (σ:St) (id:Nat):Nat:=73+σ.slots*3+id
def pack (state end_:Nat):Nat:=end_*8+state
def stateOf (w:Nat):Nat:=w % 8
def endOf (w:Nat):Nat:=w / 8
def clockW (t id:Nat):Nat:=t*65536+id
def timeOf (w:Nat):Nat:=w / 65536
def lastOf (w:Nat):Nat:=w % 65536
def St.word (σ:St) (i:Nat):Nat:=σ.words.getD i 0
def St.tick (σ:St):St:={σ with count:=σ.count+1}
def St.put (σ:St) (i v:Nat):St:={σ with words:=σ.words.set i v,count:=σ.count+1}
def St.cas (σ:St) (i old new:Nat):St:=if σ.word i=old then σ.put i new else σ.tick
def St.t (σ:St) (s:Nat):Txn:=((σ.txns.getD s none).getD default)
def St.c (σ:St) (s:Nat):Cal:=((σ.calls.getD s none).getD default)
def St.setT (σ:St) (s:Nat) (t:Txn):St:={σ with txns:=σ.txns.set s (some t)}
def St.setC (σ:St) (s:Nat) (c:Cal):St:={σ with calls:=σ.calls.set s (some c)}
def St.event (σ:St) (e:Ev):St:={σ with tale:=σ.tale++[e]}
def St.help (σ:St) (w:Nat):St:=σ.cas (σ.place (lastOf w)) (pack 1 0) (pack 2 (timeOf w))
def St.bind (σ:St) (s to:Nat):St:=
 if to∈(σ.t s).bonds then σ
 else (σ.setT s {σ.t s with bonds:=(σ.t s).bonds++[to]}).event {kind:=4,t:=(σ.t s).id,n:=to}
def St.read (σ:St) (s key link:Nat) (got:Bool):St:=σ.setT s {σ.t s with reads:=(σ.t s).reads++[(key,link,got)]}
def Txn.cell (t:Txn) (key:Nat):Option Cel:=t.cells.lookup key
def St.valueOf (σ:St) (link:Nat):Nat:=(σ.values.getD (slotOf link) (0,0)).2
def St.tell (σ:St) (s key n:Nat):St:=σ.setC s {σ.c s with r:={(σ.c s).r with pairs:=(σ.c s).r.pairs++[(key,n)]}}
def scanN (s:Nat):Nat→St→Nat→St×K
 |0,σ,key=>(σ,.fin (σ.c s).r)
 |n+1,σ,key=>
  if (σ.c s).op.hi<key then (σ,.fin (σ.c s).r) else
  match (σ.t s).cell key with
  |some x=>scanN s n (if x.there then σ.tell s key (σ.valueOf x.own) else σ) (key+1)
  |none=>(σ,.start ⟨key,(σ.t s).begin_,.scan key⟩)
def St.scan (σ:St) (s key:Nat):St×K:=scanN s ((σ.c s).op.hi+1 - key) σ key
def Txn.needs (t:Txn) (r:Nat×Nat×Bool):Bool:=(t.cell r.1).isNone&&(t.level==3||(t.level==2&&r.2.2))
def Txn.need (t:Txn):Nat→Nat→Nat
 |0,i=>i
 |n+1,i=>if i<t.reads.length∧t.needs (t.reads.getD i (0,0,false))=false then t.need n (i+1) else i
def waitK (t:Txn) (i:Nat):K:=if i=t.bonds.length then .commit else .wait i
def judgeK (t:Txn) (i:Nat):K:=
 let i:=t.need (t.reads.length - i) i
 if i=t.reads.length then waitK t 0 else .start ⟨(t.reads.getD i (0,0,false)).1,t.end_,.judge i (t.reads.getD i (0,0,false)).2.1⟩
/- The pool. -/
def St.list (σ:St):St:=if σ.listed then σ else {σ with listed:=true,free:=σ.free++(List.range σ.slots).reverse}
def linkOf (i tag:Nat):Nat:=tag*131072+(i+1)
def St.linkAt (σ:St) (i:Nat):Nat:=linkOf i (σ.tags.getD i (0,false)).1
def St.take (σ:St):St×Option Nat:=
 let σ:=σ.list
 match σ.free.getLast? with
 |none=>(σ,none)
 |some i=>({σ with free:=σ.free.dropLast,tags:=σ.tags.set i ((σ.tags.getD i (0,false)).1,true)},some (σ.linkAt i))
def St.poolLive (σ:St) (link:Nat):Bool:=1≤link % 131072&&link % 131072≤σ.slots&&(σ.tags.getD (slotOf link) (0,false)).2&&σ.linkAt (slotOf link)==link
def St.give (σ:St) (link:Nat):St:=
 if σ.poolLive link then
  let i:=slotOf link
  let tag:=(σ.tags.getD i (0,false)).1
  if tag=65535 then {σ with tags:=σ.tags.set i (tag,false),worn:=σ.worn+1}
  else {σ with tags:=σ.tags.set i (tag+1,false),free:=σ.free++[i]}
 else σ
def St.used (σ:St):Nat:=σ.list.slots - σ.list.free.length - σ.worn
def St.slot (σ:St) (s:Nat) (x:Bool) (link head:Nat):St×K:=
 match (if link=0 then σ.take else (σ,some link)) with
 |(σ,none)=>(σ,.abort 14 5)
 |(σ,some link)=>({σ with values:=σ.values.set (slotOf link) ((σ.c s).op.key,(σ.c s).op.value)},.slotB x link head)
def St.freeK (σ:St) (s link head at_:Nat):St×K:=if at_=0 then σ.slot s false link head else (σ,.free link head at_)
def St.lost (σ:St) (link:Nat):St×K:=(if link≠0 then σ.give link else σ,.abort 14 2)
def mine (t:Txn):Nat:=txnBit+t.id
def St.takeKey (σ:St) (s key:Nat) (x:Cel):St:=σ.setT s {σ.t s with cells:=(key,x)::(σ.t s).cells,keys:=(σ.t s).keys++[key]}
def upd (l:List (Nat×Cel)) (key:Nat) (x:Cel):List (Nat×Cel):=l.map fun p=>if p.1=key then (key,x) else p
def St.setX (σ:St) (s key:Nat) (x:Cel):St:=σ.setT s {σ.t s with cells:=upd (σ.t s).cells key x}
def St.x (σ:St) (s key:Nat):Cel:=((σ.t s).cell key).getD default
def St.thn (σ:St) (s:Nat) (h:Hunt) (link:Nat):St×K:=
 match h.thn with
 |.get=>
  let σ:=σ.read s h.key link (link !=0)
  if link=0 then (σ,.fin {e:=11}) else (σ,.fin {value:=σ.valueOf link})
 |.scan key=>
  let σ:=σ.read s key link false
  (if link=0 then σ else σ.tell s key (σ.valueOf link)).scan s (key+1)
 |.change=>
  let o:=(σ.c s).op
  if link≠0∧o.kind=2 then (σ.read s o.key link false,.fin {e:=12})
  else if link=0∧o.kind≠2 then (σ.read s o.key link false,.fin {e:=11})
  else if link=0 then (σ,.fresh 0)
  else (σ,.own link)
 |.judge i l=>
  if link≠l then (σ,.abort 14 3) else (σ,judgeK (σ.t s) (i+1))
def St.visit (σ:St) (s:Nat) (h:Hunt) (link:Nat):St×K:=if link=0 then σ.thn s h 0 else (σ,.visit h link)
def St.seen (σ:St) (s:Nat) (h:Hunt) (link maybe_:Nat):St×K:=if maybe_=0 then σ.thn s h link else (σ,.seen h link maybe_)
def St.beginK (σ:St) (s:Nat) (h:Hunt) (link w:Nat):K:=
 if (rd w).1=1∧(rd w).2≤h.at_ then .ended h link 0
 else if (rd w).1≠2∨(rd w).2=(σ.t s).id then .older h link
 else .maker h link (rd w).2
def St.tellEnd (σ:St) (s:Nat) (e:Ev):St:=if (σ.t s).over then σ else (σ.setT s {σ.t s with over:=true}).event e
def St.finish (σ:St) (s:Nat) (r:Res):St:=σ.setC s {σ.c s with r:=r,over:=true}
def commitTurns (σ:St) (t:Txn):List Trn:=
 t.keys.flatMap fun key=>
  let x:=(t.cell key).getD default
  (if x.own≠0 then ⟨wslot x.own 0,0,t.end_⟩::(if x.there then [] else [⟨wslot x.own 1,0,t.end_⟩]) else [])
  ++(if x.old≠0 then [⟨wslot x.old 1,0,t.end_⟩] else [])
def abortTurns (σ:St) (t:Txn):List Trn:=
 t.keys.flatMap fun key=>
  let x:=(t.cell key).getD default
  if x.old≠0 then [⟨wslot x.old 1,mine t,ever⟩] else []
def St.run (σ:St) (s:Nat):K→St×Option K
 |.fin r=>(σ.finish s r,none)
 |.start h=>let w:=σ.word (9+h.key);let (σ,k):=σ.tick.visit s h w;(σ,some k)
 |.visit h link=>(σ.tick,some (σ.beginK s h link (σ.word (wslot link 0))))
 |.maker h link id=>
  let w:=σ.word (σ.place id);let σ:=σ.tick
  if endOf w=0∨h.at_<endOf w∨stateOf w=4 then (σ,some (.older h link))
  else if stateOf w=2 then (σ,some (.ended h link id))
  else (σ,some (.ended h link 0))
 |.older h link=>let w:=σ.word (wslot link 2);let (σ,k):=σ.tick.visit s h w;(σ,some k)
 |.ended h link maybe_=>
  let w:=σ.word (wslot link 1);let σ:=σ.tick
  let r:=rd w
  if r.1=1∧r.2≤h.at_ then (σ,some (.older h link))
  else if r.1≠2∨r.2=(σ.t s).id then let (σ,k):=σ.seen s h link maybe_;(σ,some k)
  else (σ,some (.ender h link maybe_ r.2))
 |.ender h link maybe_ id=>
  let w:=σ.word (σ.place id);let σ:=σ.tick
  if endOf w=0∨h.at_<endOf w∨stateOf w=4 then let (σ,k):=σ.seen s h link maybe_;(σ,some k)
  else if stateOf w=2 then (σ.bind s id,some (.older h link))
  else (σ,some (.older h link))
 |.seen h link maybe_=>
  let w:=σ.word (σ.place maybe_);let σ:=σ.tick
  if stateOf w=4 then (σ,some (.start h))
  else let (σ,k):=(if stateOf w=2 then σ.bind s maybe_ else σ).thn s h link;(σ,some k)
 |.again end_=>
  let key:=(σ.c s).op.key
  let x:=σ.x s key
  let σ:=σ.put (wslot x.own 1) end_
  let there:=(σ.c s).op.kind !=4
  let σ:=σ.setX s key {x with there:=there}
  let σ:=if there then {σ with values:=σ.values.set (slotOf x.own) ((σ.values.getD (slotOf x.own) (0,0)).1,(σ.c s).op.value)} else σ
  (σ,some (.fin {}))
 |.own link=>
  let w:=σ.word (wslot link 1);let σ:=σ.tick
  let r:=rd w
  if r.1=3 then (σ,some (.claim link w))
  else if r.1=2 then (σ,some (.ownTxn link w r.2))
  else (σ,some (.abort 14 2))
 |.ownTxn link w id=>
  let v:=σ.word (σ.place id);let σ:=σ.tick
  if stateOf v≠4 then (σ,some (.abort 14 2)) else (σ,some (.claim link w))
 |.claim link w=>
  let v:=σ.word (wslot link 1)
  let σ:=σ.cas (wslot link 1) w (mine (σ.t s))
  if v≠w then (σ,some (.own link))
  else
   let σ:=σ.takeKey s (σ.c s).op.key ⟨0,link,false⟩
   if (σ.c s).op.kind=4 then (σ,some (.fin {}))
   else let (σ,k):=σ.slot s true 0 0;(σ,some k)
 |.fresh link=>
  let head:=σ.word (9+(σ.c s).op.key)
  let (σ,k):=σ.tick.freeK s link head head;(σ,some k)
 |.next link head at_=>
  let w:=σ.word (wslot at_ 2)
  let (σ,k):=σ.tick.freeK s link head w;(σ,some k)
 |.free link head at_=>
  let w:=σ.word (wslot at_ 0);let σ:=σ.tick
  let r:=rd w
  if r.1=1∧r.2≤(σ.t s).begin_ then (σ,some (.next link head at_))
  else if r.1≠2 then let (σ,k):=σ.lost link;(σ,some k)
  else (σ,some (.freeTxn link head at_ r.2))
 |.freeTxn link head at_ id=>
  let w:=σ.word (σ.place id);let σ:=σ.tick
  if stateOf w=4∨(0<endOf w∧endOf w≤(σ.t s).begin_) then (σ,some (.next link head at_))
  else let (σ,k):=σ.lost link;(σ,some k)
 |.slotB x link head=>(σ.put (wslot link 0) (mine (σ.t s)),some (.slotE x link head))
 |.slotE x link head=>
  let σ:=σ.put (wslot link 1) ever
  (σ,some (if x then .over link else .push link head))
 |.push link head=>(σ.put (wslot link 2) head,some (.pushC link head))
 |.pushC link head=>
  let key:=(σ.c s).op.key
  let v:=σ.word (9+key)
  let σ:=σ.cas (9+key) head link
  if v≠head then (σ,some (.fresh link))
  else (σ.takeKey s key ⟨link,0,true⟩,some (.fin {}))
 |.over link=>let head:=σ.word (9+(σ.c s).op.key);(σ.tick,some (.overN link head))
 |.overN link head=>(σ.put (wslot link 2) head,some (.overC link head))
 |.overC link head=>
  let key:=(σ.c s).op.key
  let v:=σ.word (9+key)
  let σ:=σ.cas (9+key) head link
  if v≠head then (σ,some (.over link))
  else (σ.setX s key {σ.x s key with own:=link,there:=true},some (.fin {}))
 |.draw=>
  let w:=σ.word 0;let σ:=σ.tick
  if σ.limit≤timeOf w then (σ,some (.abort 14 6))
  else if lastOf w=0 then (σ,some (.turn w (timeOf w)))
  else (σ,some (.drawH w (timeOf w)))
 |.drawH w now=>(σ.help w,some (.turn w now))
 |.turn w now=>
  let v:=σ.word 0
  let σ:=σ.cas 0 w (clockW (now+1) (σ.t s).id)
  if v≠w then (σ,some .draw)
  else
   let σ:=(σ.setT s {σ.t s with end_:=now+1}).event {kind:=3,t:=(σ.t s).id,n:=now+1}
   (σ,some .helpJ)
 |.helpJ=>
  let σ:=σ.help (clockW (σ.t s).end_ (σ.t s).id)
  (σ,some (judgeK (σ.t s) 0))
 |.wait i=>
  let v:=σ.word (σ.place ((σ.t s).bonds.getD i 0));let σ:=σ.tick
  if stateOf v=3 then (σ,some (waitK (σ.t s) (i+1)))
  else if stateOf v=4 then (σ,some (.abort 14 4))
  else (σ.setC s {σ.c s with waits:=true},some (.wait i))
 |.commit=>
  let t:=σ.t s
  let σ:=(σ.put (σ.place t.id) (pack 3 t.end_)).tellEnd s {kind:=5,t:=t.id}
  (σ,some (.turns (commitTurns σ t) {over:=3}))
 |.abort e reason=>
  let t:=σ.t s
  let σ:=(σ.put (σ.place t.id) (pack 4 t.end_)).tellEnd s {kind:=6,t:=t.id,res:={reason:=reason}}
  (σ,some (.turns (abortTurns σ t) {e:=e,over:=4,reason:=reason}))
 |.turns [] r=>((σ.put (1+s) 0).finish s r,none)
 |.turns (x::l) r=>(if x.old=0 then σ.put x.at_ x.new else σ.cas x.at_ x.old x.new,some (.turns l r))
def opOk (o:Op):Bool:=
 match o.kind with
 |1=>o.key≤63&&o.hi==0&&o.value==0
 |4=>o.key≤63&&o.hi==0&&o.value==0
 |2=>o.key≤63&&o.hi==0&&o.value≤65535
 |3=>o.key≤63&&o.hi==0&&o.value≤65535
 |5=>o.key≤63&&o.key≤o.hi&&o.hi≤63&&o.value==0
 |6=>o.key==0&&o.hi==0&&o.value==0
 |7=>o.key==0&&o.hi==0&&o.value==0
 |_=>false
def opEnds (o:Op):Bool:=o.kind==6||o.kind==7
def new (slots limit:Nat):St:=
 {slots:=slots,limit:=limit,words:=List.replicate (73+slots*3+2000+1) 0,count:=0,tags:=List.replicate slots (0,false),free:=[],worn:=0,listed:=false,values:=List.replicate slots (0,0),txns:=List.replicate 8 none,calls:=List.replicate 8 none,made:=0,seq:=0,looks:=0,tale:=[],sw:=none,low:=0,cut:=[],cuts:=0}
def St.first (σ:St) (s:Nat):St×K:=
 let o:=(σ.c s).op
 let t:=σ.t s
 match o.kind with
 |1=>
  match t.cell o.key with
  |some x=>(σ,if x.there then .fin {value:=σ.valueOf x.own} else .fin {e:=11})
  |none=>(σ,.start ⟨o.key,t.begin_,.get⟩)
 |5=>σ.scan s o.key
 |6=>(σ,.draw)
 |7=>(σ,.abort 0 1)
 |_=>
  match t.cell o.key with
  |some x=>
   if x.there∧o.kind=2 then (σ,.fin {e:=12})
   else if x.there=false∧o.kind≠2 then (σ,.fin {e:=11})
   else if x.own=0 then σ.slot s true 0 0
   else (σ,.again (if o.kind=4 then mine t else ever))
  |none=>(σ,.start ⟨o.key,t.begin_,.change⟩)
/- Sweeping. -/
def headS (key:Nat):Option S:=if 63<key then none else some (.head key)
def liveS (s:Nat):Option S:=if s=8 then headS 0 else some (.live s)
def visitS (key ahead link:Nat):Option S:=if link=0 then headS (key+1) else some (.visit key ahead link)
def garbage (end_ low:Nat):Bool:=(rd end_).1==1&&1≤(rd end_).2&&(rd end_).2≤low
def St.sweepRun (σ:St):S→St×Bool
 |.now=>({σ.tick with low:=timeOf (σ.word 0),sw:=liveS 0},false)
 |.live s=>
  let w:=σ.word (1+s)
  ({σ.tick with low:=if 0<w then min σ.low w else σ.low,sw:=liveS (s+1)},false)
 |.head key=>({σ.tick with sw:=visitS key 0 (σ.word (9+key))},false)
 |.visit key ahead link=>
  let b:=σ.word (wslot link 0)
  ({σ.tick with sw:=some (if (rd b).1=2 then .maker key ahead link (rd b).2 else .garbage key ahead link b)},false)
 |.maker key ahead link id=>
  ({σ.tick with sw:=some (if stateOf (σ.word (σ.place id))=4 then .unlink key ahead link else .on key link)},false)
 |.garbage key ahead link b=>
  ({σ.tick with sw:=some (if garbage (σ.word (wslot link 1)) σ.low then .unlink key ahead link else .on key link)},false)
 |.on key link=>({σ.tick with sw:=visitS key link (σ.word (wslot link 2))},false)
 |.unlink key ahead link=>({σ.tick with sw:=some (.cut key ahead link (σ.word (wslot link 2)))},true)
 |.cut key ahead link next=>
  if ahead≠0 then ({σ.put (wslot ahead 2) next with cut:=σ.cut++[(link,σ.seq)],cuts:=σ.cuts+1,sw:=visitS key ahead next},true)
  else if σ.word (9+key)=link then ({σ.put (9+key) next with cut:=σ.cut++[(link,σ.seq)],cuts:=σ.cuts+1,sw:=visitS key ahead next},true)
  else ({σ.tick with sw:=headS key},true)
def St.sweep (σ:St):St×Bool:=
 match σ.cut with
 |(link,seq)::rest=>
  if σ.calls.all (fun c=>match c with|some c=>seq<c.seq|none=>true) then ({σ.give link with cut:=rest},true)
  else go σ
 |[]=>go σ
where go (σ:St):St×Bool:=
 let before:=σ.count
 let (σ,b):=σ.sweepRun (σ.sw.getD .now)
 ({σ with looks:=σ.looks+(σ.count - before)},b)
/- What is told. -/
structure Status where
 live:Bool:=false
 busy:Bool:=false
 waits:Bool:=false
 id:Nat:=0
 level:Nat:=0
 state:Nat:=0
 begin_:Nat:=0
 end_:Nat:=0
 ops:Nat:=0
 deriving Repr,DecidableEq,Inhabited
def St.status (σ:St) (s:Nat):Status:=
 match σ.txns.getD s none with
 |none=>{}
 |some t=>
  let c:=σ.calls.getD s none
  {live:=true,id:=t.id,level:=t.level,state:=if 0<t.end_ then 2 else 1,begin_:=t.begin_,end_:=t.end_,ops:=t.ops,busy:=c.isSome,waits:=(c.map (·.waits)).getD false}
def St.now (σ:St):Nat:=timeOf (σ.word 0)
def St.live (σ:St):List Nat:=(List.range 8).filter fun s=>(σ.txns.getD s none).isSome
def St.done (σ:St) (w:Nat):Bool:=(rd w).1==1||((rd w).1==2&&stateOf (σ.word (σ.place (rd w).2))==3)
def St.pairAt (σ:St):Nat→Nat→Option Nat
 |0,_=>none
 |n+1,link=>if link=0 then none else if σ.done (σ.word (wslot link 0))&&!σ.done (σ.word (wslot link 1)) then some (σ.valueOf link) else σ.pairAt n (σ.word (wslot link 2))
def St.pairs (σ:St):List (Nat×Nat):=(List.range 64).filterMap fun key=>(σ.pairAt (σ.slots+1) (σ.word (9+key))).map fun v=>(key,v)
end Go.Proofs.YtbefcdjcefmicaaGreat.En
