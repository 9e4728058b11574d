import Derived.Test.YtbefcdjcefmicaaGreatKq5
import Derived.Deep.RegionHeld3
namespace Go.Proofs.YtbefcdjcefmicaaGreat.Em
open Go.ChangeShapes Go.WideShapes Go.ChangeAt Go.RowKit En
set_option linter.unusedVariables false
set_option linter.unusedSimpArgs false
set_option maxRecDepth 100000
set_option maxHeartbeats 1600000
structure KP where
 e:Nat
 t:Nat
 c:Nat
 x:Nat
 vp:Value
 ps:List (Nat×Nat)
def KP.xo (p:KP) (x:Bool):Value:=if x then ptr p.x else .pointer none
def kp (A:Book) (σ:St) (s:Nat):KP:=⟨A.be,A.bt s,A.bc s,A.bx s (σ.c s).op.key,A.vpairs s,(σ.c s).r.pairs⟩
def resCs (r:Res) (vp:Value):List Value:=[i64 r.e,i64 r.value,vp,i64 r.over,i64 r.reason]
def ResBox (p:KP) (L:Lab) (w:World) (b:Nat) (r:Res):Prop:=∃ vp T,Fix L w b (.cells (resCs r vp).toArray T)∧((vp=p.vp∧r.pairs=p.ps)∨(vp=.slice none 0 0∧r.pairs=[]))
def StampBox (L:Lab) (w:World) (b id:Nat):Prop:=∃ T,Fix L w b (.cells #[i64 2,u64 id] T)
def SeenBox (L:Lab) (w:World) (b link:Nat):Prop:=∃ T key got,Fix L w b (.cells #[i64 key,u64 link,.bool got] T)
def HeadBox (L:Lab) (w:World) (b:Nat) (x:Bool) (head:Nat):Prop:=∃ v,Box L w b v∧FRow L w 1 v (if x then [] else [u64 head])
def trnCs (l:List Trn):List Value:=l.flatMap fun x=>[i64 x.at_,u64 x.old,u64 x.new]
def ListBox (L:Lab) (w:World) (b:Nat) (l:List Trn):Prop:=∃ v,Box L w b v∧FRow L w 3 v (trnCs l)
def TellBox (p:KP) (L:Lab) (w:World) (b key:Nat):Prop:=∃ v,Box L w b v∧∃ c0 c1,v=.func (.func 111) #[] #[ptr c0,ptr c1]∧Box L w c0 (ptr p.c)∧Box L w c1 (i64 key)
def NextBox (p:KP) (L:Lab) (w:World) (b link head at_:Nat):Prop:=∃ v,Box L w b v∧∃ c0 c1 c2 c3 c4 c5,v=.func (.func 171) #[] #[ptr c0,ptr c1,ptr c2,ptr c3,ptr c4,ptr c5]∧Box L w c0 (ptr p.e)∧Box L w c1 (ptr p.t)∧Box L w c2 (ptr p.c)∧Box L w c3 (u64 link)∧Box L w c4 (u64 head)∧Box L w c5 (u64 at_)
def TurnBox (p:KP) (L:Lab) (w:World) (b w1 now:Nat):Prop:=∃ v,Box L w b v∧∃ c0 c1 c2 c3 c4,v=.func (.func 114) #[] #[ptr c0,ptr c1,ptr c2,ptr c3,ptr c4]∧Box L w c0 (ptr p.e)∧Box L w c1 (u64 w1)∧Box L w c2 (u64 now)∧Box L w c3 (ptr p.t)∧Box L w c4 (ptr p.c)
def ThnRep (p:KP) (L:Lab) (w:World) (v:Value) (key:Nat):Thn→Prop
 |.get=>∃ b0 b1 b2 b3,v=.func (.func 109) #[] #[ptr b0,ptr b1,ptr b2,ptr b3]∧Box L w b0 (ptr p.t)∧Box L w b1 (i64 key)∧Box L w b2 (ptr p.e)∧Box L w b3 (ptr p.c)
 |.scan k=>∃ b0 b1 b2 b3 b4,v=.func (.func 112) #[] #[ptr b0,ptr b1,ptr b2,ptr b3,ptr b4]∧Box L w b0 (ptr p.t)∧Box L w b1 (i64 k)∧TellBox p L w b2 k∧Box L w b3 (ptr p.e)∧Box L w b4 (ptr p.c)
 |.change=>∃ b0 b1 b2 b3,v=.func (.func 124) #[] #[ptr b0,ptr b1,ptr b2,ptr b3]∧Box L w b0 (ptr p.c)∧Box L w b1 (ptr p.t)∧Box L w b2 (i64 key)∧Box L w b3 (ptr p.e)
 |.judge i l=>∃ b0 b1 b2 b3 b4,v=.func (.func 142) #[] #[ptr b0,ptr b1,ptr b2,ptr b3,ptr b4]∧SeenBox L w b0 l∧Box L w b1 (ptr p.e)∧Box L w b2 (ptr p.t)∧Box L w b3 (ptr p.c)∧Box L w b4 (i64 i)
def HuntAt (p:KP) (L:Lab) (w:World) (bh:Nat) (h:Hunt):Prop:=∃ vt T,Fix L w bh (.cells #[ptr p.e,ptr p.t,i64 h.key,u64 h.at_,vt] T)∧ThnRep p L w vt h.key h.thn
def HuntBox (p:KP) (L:Lab) (w:World) (b:Nat) (h:Hunt):Prop:=∃ bh,Box L w b (ptr bh)∧HuntAt p L w bh h
def KRep (p:KP) (L:Lab) (w:World) (v:Value):K→Prop
 |.start h=>∃ bh,v=.func (.func 139) #[ptr bh] #[]∧HuntAt p L w bh h
 |.fin r=>∃ b0 b1 b2,v=.func (.func 137) #[] #[ptr b0,ptr b1,ptr b2]∧Box L w b0 (ptr p.e)∧Box L w b1 (ptr p.c)∧ResBox p L w b2 r
 |.visit h link=>∃ b0 b1,v=.func (.func 180) #[] #[ptr b0,ptr b1]∧HuntBox p L w b0 h∧Box L w b1 (u64 link)
 |.older h link=>∃ b0 b1,v=.func (.func 212) #[] #[ptr b0,ptr b1]∧HuntBox p L w b0 h∧Box L w b1 (u64 link)
 |.maker h link id=>∃ b0 b1 b2,v=.func (.func 199) #[] #[ptr b0,ptr b1,ptr b2]∧HuntBox p L w b0 h∧Box L w b1 (i64 id)∧Box L w b2 (u64 link)
 |.ended h link mb=>∃ b0 b1 b2,v=.func (.func 209) #[] #[ptr b0,ptr b1,ptr b2]∧HuntBox p L w b0 h∧Box L w b1 (u64 link)∧Box L w b2 (i64 mb)
 |.ender h link mb id=>∃ b0 b1 b2 b3,v=.func (.func 226) #[] #[ptr b0,ptr b1,ptr b2,ptr b3]∧HuntBox p L w b0 h∧Box L w b1 (i64 id)∧Box L w b2 (u64 link)∧Box L w b3 (i64 mb)
 |.seen h link mb=>∃ b0 b1 b2,v=.func (.func 224) #[] #[ptr b0,ptr b1,ptr b2]∧HuntBox p L w b0 h∧Box L w b1 (i64 mb)∧Box L w b2 (u64 link)
 |.again end_=>∃ b0 b1 b2 b3,v=.func (.func 149) #[] #[ptr b0,ptr b1,ptr b2,ptr b3]∧Box L w b0 (ptr p.e)∧Box L w b1 (ptr p.x)∧Box L w b2 (u64 end_)∧Box L w b3 (ptr p.c)
 |.own link=>∃ b0 b1 b2 b3,v=.func (.func 152) #[] #[ptr b0,ptr b1,ptr b2,ptr b3]∧Box L w b0 (ptr p.e)∧Box L w b1 (u64 link)∧Box L w b2 (ptr p.t)∧Box L w b3 (ptr p.c)
 |.ownTxn link w1 id=>∃ b0 b1 b2 b3 b4 b5,v=.func (.func 154) #[] #[ptr b0,ptr b1,ptr b2,ptr b3,ptr b4,ptr b5]∧Box L w b0 (ptr p.e)∧Box L w b1 (i64 id)∧Box L w b2 (ptr p.t)∧Box L w b3 (ptr p.c)∧Box L w b4 (u64 link)∧Box L w b5 (u64 w1)
 |.claim link w1=>∃ b0 b1 b2 b3 b4,v=.func (.func 175) #[] #[ptr b0,ptr b1,ptr b2,ptr b3,ptr b4]∧Box L w b0 (ptr p.e)∧Box L w b1 (u64 link)∧Box L w b2 (u64 w1)∧Box L w b3 (ptr p.t)∧Box L w b4 (ptr p.c)
 |.fresh link=>∃ b0 b1 b2 b3,v=.func (.func 150) #[] #[ptr b0,ptr b1,ptr b2,ptr b3]∧Box L w b0 (ptr p.e)∧Box L w b1 (ptr p.c)∧Box L w b2 (ptr p.t)∧Box L w b3 (u64 link)
 |.next link head at_=>∃ b0 b1 b2 b3 b4 b5,v=.func (.func 171) #[] #[ptr b0,ptr b1,ptr b2,ptr b3,ptr b4,ptr b5]∧Box L w b0 (ptr p.e)∧Box L w b1 (ptr p.t)∧Box L w b2 (ptr p.c)∧Box L w b3 (u64 link)∧Box L w b4 (u64 head)∧Box L w b5 (u64 at_)
 |.free link head at_=>∃ b0 b1 b2 b3 b4 b5,v=.func (.func 172) #[] #[ptr b0,ptr b1,ptr b2,ptr b3,ptr b4,ptr b5]∧Box L w b0 (ptr p.e)∧Box L w b1 (u64 at_)∧Box L w b2 (ptr p.t)∧NextBox p L w b3 link head at_∧Box L w b4 (ptr p.c)∧Box L w b5 (u64 link)
 |.freeTxn link head at_ id=>∃ b0 b1 b2 b3 b4 b5,v=.func (.func 174) #[] #[ptr b0,ptr b1,ptr b2,ptr b3,ptr b4,ptr b5]∧Box L w b0 (ptr p.e)∧StampBox L w b1 id∧Box L w b2 (ptr p.t)∧NextBox p L w b3 link head at_∧Box L w b4 (ptr p.c)∧Box L w b5 (u64 link)
 |.slotB x link head=>∃ b0 b1 b2 b3 b4 b5,v=.func (.func 167) #[] #[ptr b0,ptr b1,ptr b2,ptr b3,ptr b4,ptr b5]∧Box L w b0 (ptr p.e)∧Box L w b1 (u64 link)∧Box L w b2 (ptr p.t)∧Box L w b3 (p.xo x)∧Box L w b4 (ptr p.c)∧HeadBox L w b5 x head
 |.slotE x link head=>∃ b0 b1 b2 b3 b4 b5,v=.func (.func 168) #[] #[ptr b0,ptr b1,ptr b2,ptr b3,ptr b4,ptr b5]∧Box L w b0 (ptr p.e)∧Box L w b1 (u64 link)∧Box L w b2 (p.xo x)∧Box L w b3 (ptr p.t)∧Box L w b4 (ptr p.c)∧HeadBox L w b5 x head
 |.push link head=>∃ b0 b1 b2 b3 b4,v=.func (.func 188) #[] #[ptr b0,ptr b1,ptr b2,ptr b3,ptr b4]∧Box L w b0 (ptr p.e)∧Box L w b1 (u64 link)∧Box L w b2 (u64 head)∧Box L w b3 (ptr p.c)∧Box L w b4 (ptr p.t)
 |.pushC link head=>∃ b0 b1 b2 b3 b4,v=.func (.func 189) #[] #[ptr b0,ptr b1,ptr b2,ptr b3,ptr b4]∧Box L w b0 (ptr p.e)∧Box L w b1 (ptr p.c)∧Box L w b2 (u64 head)∧Box L w b3 (u64 link)∧Box L w b4 (ptr p.t)
 |.over link=>∃ b0 b1 b2 b3 b4,v=.func (.func 190) #[] #[ptr b0,ptr b1,ptr b2,ptr b3,ptr b4]∧Box L w b0 (ptr p.e)∧Box L w b1 (ptr p.c)∧Box L w b2 (u64 link)∧Box L w b3 (ptr p.t)∧Box L w b4 (ptr p.x)
 |.overN link head=>∃ b0 b1 b2 b3 b4 b5,v=.func (.func 191) #[] #[ptr b0,ptr b1,ptr b2,ptr b3,ptr b4,ptr b5]∧Box L w b0 (ptr p.e)∧Box L w b1 (u64 link)∧Box L w b2 (u64 head)∧Box L w b3 (ptr p.c)∧Box L w b4 (ptr p.t)∧Box L w b5 (ptr p.x)
 |.overC link head=>∃ b0 b1 b2 b3 b4 b5,v=.func (.func 192) #[] #[ptr b0,ptr b1,ptr b2,ptr b3,ptr b4,ptr b5]∧Box L w b0 (ptr p.e)∧Box L w b1 (ptr p.c)∧Box L w b2 (u64 head)∧Box L w b3 (u64 link)∧Box L w b4 (ptr p.t)∧Box L w b5 (ptr p.x)
 |.draw=>∃ b0 b1 b2,v=.func (.func 113) #[] #[ptr b0,ptr b1,ptr b2]∧Box L w b0 (ptr p.e)∧Box L w b1 (ptr p.t)∧Box L w b2 (ptr p.c)
 |.drawH w1 now=>∃ b0 b1 b2,v=.func (.func 117) #[] #[ptr b0,ptr b1,ptr b2]∧Box L w b0 (ptr p.e)∧Box L w b1 (u64 w1)∧TurnBox p L w b2 w1 now
 |.turn w1 now=>∃ b0 b1 b2 b3 b4,v=.func (.func 114) #[] #[ptr b0,ptr b1,ptr b2,ptr b3,ptr b4]∧Box L w b0 (ptr p.e)∧Box L w b1 (u64 w1)∧Box L w b2 (u64 now)∧Box L w b3 (ptr p.t)∧Box L w b4 (ptr p.c)
 |.helpJ=>∃ b0 b1 b2,v=.func (.func 115) #[] #[ptr b0,ptr b1,ptr b2]∧Box L w b0 (ptr p.e)∧Box L w b1 (ptr p.t)∧Box L w b2 (ptr p.c)
 |.wait i=>∃ b0 b1 b2 b3 b4,v=.func (.func 163) #[] #[ptr b0,ptr b1,ptr b2,ptr b3,ptr b4]∧Box L w b0 (ptr p.e)∧Box L w b1 (ptr p.t)∧Box L w b2 (i64 i)∧Box L w b3 (ptr p.c)∧Box L w b4 v
 |.turns [] r=>∃ b0 b1 b2 b3,v=.func (.func 146) #[] #[ptr b0,ptr b1,ptr b2,ptr b3]∧Box L w b0 (ptr p.e)∧Box L w b1 (ptr p.t)∧Box L w b2 (ptr p.c)∧ResBox p L w b3 r
 |.turns (x::l) r=>∃ b0 b1 b2 b3 b4,v=.func (.func 147) #[] #[ptr b0,ptr b1,ptr b2,ptr b3,ptr b4]∧ListBox L w b0 (x::l)∧Box L w b1 (ptr p.e)∧Box L w b2 (ptr p.t)∧Box L w b3 (ptr p.c)∧ResBox p L w b4 r
 |.commit=>∃ b0 b1 b2,v=.func (.func 182) #[] #[ptr b0,ptr b1,ptr b2]∧Box L w b0 (ptr p.e)∧Box L w b1 (ptr p.t)∧Box L w b2 (ptr p.c)
 |.abort e reason=>∃ b0 b1 b2 b3 b4,v=.func (.func 118) #[] #[ptr b0,ptr b1,ptr b2,ptr b3,ptr b4]∧Box L w b0 (ptr p.e)∧Box L w b1 (ptr p.t)∧Box L w b2 (i64 reason)∧Box L w b3 (ptr p.c)∧Box L w b4 (i64 e)
section
variable {p:KP} {L L':Lab} {w w':World}
theorem ResBox.grow {b:Nat} {r:Res} (h:ResBox p L w b r) (g:Grow L w L' w'):ResBox p L' w' b r:=let ⟨vp,T,h1,h2⟩:=h;⟨vp,T,h1.grow g,h2⟩
theorem StampBox.grow {b n:Nat} (h:StampBox L w b n) (g:Grow L w L' w'):StampBox L' w' b n:=let ⟨T,h1⟩:=h;⟨T,h1.grow g⟩
theorem SeenBox.grow {b n:Nat} (h:SeenBox L w b n) (g:Grow L w L' w'):SeenBox L' w' b n:=let ⟨T,k,q,h1⟩:=h;⟨T,k,q,h1.grow g⟩
theorem HeadBox.grow {b n:Nat} {x:Bool} (h:HeadBox L w b x n) (g:Grow L w L' w'):HeadBox L' w' b x n:=let ⟨v,h1,h2⟩:=h;⟨v,h1.grow g,h2.grow g⟩
theorem ListBox.grow {b:Nat} {l:List Trn} (h:ListBox L w b l) (g:Grow L w L' w'):ListBox L' w' b l:=let ⟨v,h1,h2⟩:=h;⟨v,h1.grow g,h2.grow g⟩
theorem TellBox.grow {b k:Nat} (h:TellBox p L w b k) (g:Grow L w L' w'):TellBox p L' w' b k:=let ⟨v,h1,c0,c1,e,k0,k1⟩:=h;⟨v,h1.grow g,c0,c1,e,k0.grow g,k1.grow g⟩
theorem NextBox.grow {b l1 l2 l3:Nat} (h:NextBox p L w b l1 l2 l3) (g:Grow L w L' w'):NextBox p L' w' b l1 l2 l3:=let ⟨v,h1,c0,c1,c2,c3,c4,c5,e,k0,k1,k2,k3,k4,k5⟩:=h;⟨v,h1.grow g,c0,c1,c2,c3,c4,c5,e,k0.grow g,k1.grow g,k2.grow g,k3.grow g,k4.grow g,k5.grow g⟩
theorem TurnBox.grow {b l1 l2:Nat} (h:TurnBox p L w b l1 l2) (g:Grow L w L' w'):TurnBox p L' w' b l1 l2:=let ⟨v,h1,c0,c1,c2,c3,c4,e,k0,k1,k2,k3,k4⟩:=h;⟨v,h1.grow g,c0,c1,c2,c3,c4,e,k0.grow g,k1.grow g,k2.grow g,k3.grow g,k4.grow g⟩
theorem ThnRep.grow {v:Value} {key:Nat} {t:Thn} (h:ThnRep p L w v key t) (g:Grow L w L' w'):ThnRep p L' w' v key t:=
 match t,h with
 |.get,hh=>let ⟨b0,b1,b2,b3,e,k0,k1,k2,k3⟩:=hh;⟨b0,b1,b2,b3,e,k0.grow g,k1.grow g,k2.grow g,k3.grow g⟩
 |.scan k,hh=>let ⟨b0,b1,b2,b3,b4,e,k0,k1,k2,k3,k4⟩:=hh;⟨b0,b1,b2,b3,b4,e,k0.grow g,k1.grow g,k2.grow g,k3.grow g,k4.grow g⟩
 |.change,hh=>let ⟨b0,b1,b2,b3,e,k0,k1,k2,k3⟩:=hh;⟨b0,b1,b2,b3,e,k0.grow g,k1.grow g,k2.grow g,k3.grow g⟩
 |.judge i l,hh=>let ⟨b0,b1,b2,b3,b4,e,k0,k1,k2,k3,k4⟩:=hh;⟨b0,b1,b2,b3,b4,e,k0.grow g,k1.grow g,k2.grow g,k3.grow g,k4.grow g⟩
theorem HuntAt.grow {b:Nat} {h:Hunt} (hh:HuntAt p L w b h) (g:Grow L w L' w'):HuntAt p L' w' b h:=let ⟨v,T,h1,h2⟩:=hh;⟨v,T,h1.grow g,h2.grow g⟩
theorem HuntBox.grow {b:Nat} {h:Hunt} (hh:HuntBox p L w b h) (g:Grow L w L' w'):HuntBox p L' w' b h:=let ⟨v,h1,h2⟩:=hh;⟨v,h1.grow g,h2.grow g⟩
theorem KRep.grow {v:Value} {k:K} (h:KRep p L w v k) (g:Grow L w L' w'):KRep p L' w' v k:=
 match k,h with
 |.start _,⟨bh,e,h1⟩=>⟨bh,e,h1.grow g⟩
 |.fin r,hh=>let ⟨b0,b1,b2,e,k0,k1,k2⟩:=hh;⟨b0,b1,b2,e,k0.grow g,k1.grow g,k2.grow g⟩
 |.visit h link,hh=>let ⟨b0,b1,e,k0,k1⟩:=hh;⟨b0,b1,e,k0.grow g,k1.grow g⟩
 |.older h link,hh=>let ⟨b0,b1,e,k0,k1⟩:=hh;⟨b0,b1,e,k0.grow g,k1.grow g⟩
 |.maker h link id,hh=>let ⟨b0,b1,b2,e,k0,k1,k2⟩:=hh;⟨b0,b1,b2,e,k0.grow g,k1.grow g,k2.grow g⟩
 |.ended h link mb,hh=>let ⟨b0,b1,b2,e,k0,k1,k2⟩:=hh;⟨b0,b1,b2,e,k0.grow g,k1.grow g,k2.grow g⟩
 |.ender h link mb id,hh=>let ⟨b0,b1,b2,b3,e,k0,k1,k2,k3⟩:=hh;⟨b0,b1,b2,b3,e,k0.grow g,k1.grow g,k2.grow g,k3.grow g⟩
 |.seen h link mb,hh=>let ⟨b0,b1,b2,e,k0,k1,k2⟩:=hh;⟨b0,b1,b2,e,k0.grow g,k1.grow g,k2.grow g⟩
 |.again end_,hh=>let ⟨b0,b1,b2,b3,e,k0,k1,k2,k3⟩:=hh;⟨b0,b1,b2,b3,e,k0.grow g,k1.grow g,k2.grow g,k3.grow g⟩
 |.own link,hh=>let ⟨b0,b1,b2,b3,e,k0,k1,k2,k3⟩:=hh;⟨b0,b1,b2,b3,e,k0.grow g,k1.grow g,k2.grow g,k3.grow g⟩
 |.ownTxn link w1 id,hh=>let ⟨b0,b1,b2,b3,b4,b5,e,k0,k1,k2,k3,k4,k5⟩:=hh;⟨b0,b1,b2,b3,b4,b5,e,k0.grow g,k1.grow g,k2.grow g,k3.grow g,k4.grow g,k5.grow g⟩
 |.claim link w1,hh=>let ⟨b0,b1,b2,b3,b4,e,k0,k1,k2,k3,k4⟩:=hh;⟨b0,b1,b2,b3,b4,e,k0.grow g,k1.grow g,k2.grow g,k3.grow g,k4.grow g⟩
 |.fresh link,hh=>let ⟨b0,b1,b2,b3,e,k0,k1,k2,k3⟩:=hh;⟨b0,b1,b2,b3,e,k0.grow g,k1.grow g,k2.grow g,k3.grow g⟩
 |.next link head at_,hh=>let ⟨b0,b1,b2,b3,b4,b5,e,k0,k1,k2,k3,k4,k5⟩:=hh;⟨b0,b1,b2,b3,b4,b5,e,k0.grow g,k1.grow g,k2.grow g,k3.grow g,k4.grow g,k5.grow g⟩
 |.free link head at_,hh=>let ⟨b0,b1,b2,b3,b4,b5,e,k0,k1,k2,k3,k4,k5⟩:=hh;⟨b0,b1,b2,b3,b4,b5,e,k0.grow g,k1.grow g,k2.grow g,k3.grow g,k4.grow g,k5.grow g⟩
 |.freeTxn link head at_ id,hh=>let ⟨b0,b1,b2,b3,b4,b5,e,k0,k1,k2,k3,k4,k5⟩:=hh;⟨b0,b1,b2,b3,b4,b5,e,k0.grow g,k1.grow g,k2.grow g,k3.grow g,k4.grow g,k5.grow g⟩
 |.slotB x link head,hh=>let ⟨b0,b1,b2,b3,b4,b5,e,k0,k1,k2,k3,k4,k5⟩:=hh;⟨b0,b1,b2,b3,b4,b5,e,k0.grow g,k1.grow g,k2.grow g,k3.grow g,k4.grow g,k5.grow g⟩
 |.slotE x link head,hh=>let ⟨b0,b1,b2,b3,b4,b5,e,k0,k1,k2,k3,k4,k5⟩:=hh;⟨b0,b1,b2,b3,b4,b5,e,k0.grow g,k1.grow g,k2.grow g,k3.grow g,k4.grow g,k5.grow g⟩
 |.push link head,hh=>let ⟨b0,b1,b2,b3,b4,e,k0,k1,k2,k3,k4⟩:=hh;⟨b0,b1,b2,b3,b4,e,k0.grow g,k1.grow g,k2.grow g,k3.grow g,k4.grow g⟩
 |.pushC link head,hh=>let ⟨b0,b1,b2,b3,b4,e,k0,k1,k2,k3,k4⟩:=hh;⟨b0,b1,b2,b3,b4,e,k0.grow g,k1.grow g,k2.grow g,k3.grow g,k4.grow g⟩
 |.over link,hh=>let ⟨b0,b1,b2,b3,b4,e,k0,k1,k2,k3,k4⟩:=hh;⟨b0,b1,b2,b3,b4,e,k0.grow g,k1.grow g,k2.grow g,k3.grow g,k4.grow g⟩
 |.overN link head,hh=>let ⟨b0,b1,b2,b3,b4,b5,e,k0,k1,k2,k3,k4,k5⟩:=hh;⟨b0,b1,b2,b3,b4,b5,e,k0.grow g,k1.grow g,k2.grow g,k3.grow g,k4.grow g,k5.grow g⟩
 |.overC link head,hh=>let ⟨b0,b1,b2,b3,b4,b5,e,k0,k1,k2,k3,k4,k5⟩:=hh;⟨b0,b1,b2,b3,b4,b5,e,k0.grow g,k1.grow g,k2.grow g,k3.grow g,k4.grow g,k5.grow g⟩
 |.draw,hh=>let ⟨b0,b1,b2,e,k0,k1,k2⟩:=hh;⟨b0,b1,b2,e,k0.grow g,k1.grow g,k2.grow g⟩
 |.drawH w1 now,hh=>let ⟨b0,b1,b2,e,k0,k1,k2⟩:=hh;⟨b0,b1,b2,e,k0.grow g,k1.grow g,k2.grow g⟩
 |.turn w1 now,hh=>let ⟨b0,b1,b2,b3,b4,e,k0,k1,k2,k3,k4⟩:=hh;⟨b0,b1,b2,b3,b4,e,k0.grow g,k1.grow g,k2.grow g,k3.grow g,k4.grow g⟩
 |.helpJ,hh=>let ⟨b0,b1,b2,e,k0,k1,k2⟩:=hh;⟨b0,b1,b2,e,k0.grow g,k1.grow g,k2.grow g⟩
 |.wait i,hh=>let ⟨b0,b1,b2,b3,b4,e,k0,k1,k2,k3,k4⟩:=hh;⟨b0,b1,b2,b3,b4,e,k0.grow g,k1.grow g,k2.grow g,k3.grow g,k4.grow g⟩
 |.turns [] r,hh=>let ⟨b0,b1,b2,b3,e,k0,k1,k2,k3⟩:=hh;⟨b0,b1,b2,b3,e,k0.grow g,k1.grow g,k2.grow g,k3.grow g⟩
 |.turns (x::l) r,hh=>let ⟨b0,b1,b2,b3,b4,e,k0,k1,k2,k3,k4⟩:=hh;⟨b0,b1,b2,b3,b4,e,k0.grow g,k1.grow g,k2.grow g,k3.grow g,k4.grow g⟩
 |.commit,hh=>let ⟨b0,b1,b2,e,k0,k1,k2⟩:=hh;⟨b0,b1,b2,e,k0.grow g,k1.grow g,k2.grow g⟩
 |.abort e reason,hh=>let ⟨b0,b1,b2,b3,b4,e,k0,k1,k2,k3,k4⟩:=hh;⟨b0,b1,b2,b3,b4,e,k0.grow g,k1.grow g,k2.grow g,k3.grow g,k4.grow g⟩
end
structure Stay (A A':Book) (s:Nat):Prop where
 bf:A'.bef=A.bef
 ba:A'.ba=A.ba
 bp:A'.bp=A.bp
 bt:A'.bt=A.bt
 bm:A'.bm=A.bm
 bc:A'.bc=A.bc
 vnext:A'.vnext=A.vnext
 vcall:A'.vcall=A.vcall
 vsweep:A'.vsweep=A.vsweep
 mp:A'.mp=A.mp
 mt:A'.mt=A.mt
 bx:∀ k,k≠s→A'.bx k=A.bx k
 vpairs:∀ k,k≠s→A'.vpairs k=A.vpairs k
theorem Stay.be {A A':Book} {s:Nat} (h:Stay A A' s):A'.be=A.be:=bef_be h.bf
theorem Stay.refl (A:Book) (s:Nat):Stay A A s:=⟨rfl,rfl,rfl,rfl,rfl,rfl,rfl,rfl,rfl,rfl,rfl,fun _ _=>rfl,fun _ _=>rfl⟩
theorem Stay.trans {A B C:Book} {s:Nat} (h:Stay A B s) (k:Stay B C s):Stay A C s:=
 ⟨k.bf.trans h.bf,k.ba.trans h.ba,k.bp.trans h.bp,k.bt.trans h.bt,k.bm.trans h.bm,k.bc.trans h.bc,k.vnext.trans h.vnext,k.vcall.trans h.vcall,k.vsweep.trans h.vsweep,k.mp.trans h.mp,k.mt.trans h.mt,fun j hj=>(k.bx j hj).trans (h.bx j hj),fun j hj=>(k.vpairs j hj).trans (h.vpairs j hj)⟩
def Ran (A:Book) (w:World) (s:Nat) (r:St×Option K):Ending→World→Prop:=fun e w'=>
 ∃ A' v,e=.returned v∧Rep A' r.1 w'∧Grow A.L w A'.L w'∧Stay A A' s∧(match r.2 with|some k=>KRep (kp A' r.1 s) A'.L w' v k|none=>v=.nilFunc)
def Tells (A:Book) (w:World) (s:Nat) (r:St×K):Ending→World→Prop:=fun e w'=>
 ∃ A' v,e=.returned v∧Rep A' r.1 w'∧Grow A.L w A'.L w'∧Stay A A' s∧KRep (kp A' r.1 s) A'.L w' v r.2
structure Kp (A:Book) (w w':World):Prop where
 fix:∀ b o v,A.L b=none→w.cell? ⟨b,o,none⟩=some v→w'.cell? ⟨b,o,none⟩=some v
 ea:w'.cell? ⟨A.be,2,none⟩=some (ptr A.ba)
theorem Kp.of {A A':Book} {σ':St} {w w':World} {s:Nat} (g:Grow A.L w A'.L w') (h:Rep A' σ' w') (st:Stay A A' s):Kp A w w':=
 ⟨fun b o v hl hc=>(World.cell?_of_block (w:=w) (a:=⟨b,o,none⟩) (g.block b (World.block_lt_of_cell? w _ hc) hl)).trans hc,by have:=h.eng 2 (v:=ptr A'.ba) rfl;rw[st.be,st.ba] at this;exact this⟩
theorem Fix.box {L:Lab} {w:World} {b:Nat} {v:Value} {T:TypeId} (h:Fix L w b (.cells #[v] T)):Box L w b v:=⟨T,h⟩
theorem size_alloc1 (w:World) (o:Obj):(w.alloc o).heap.size=w.heap.size+1:=by simp
theorem fix_next {L:Lab} {w:World} {b:Nat} (hf:∀ k,w.heap.size≤k→L k=none) (o:Obj) (hb:b=w.heap.size):Fix L (w.alloc o) b o:=by subst hb;exact Fix.alloc (hf _ (Nat.le_refl _))
theorem allocs1 {A:Book} {σ:St} {w:World} (hR:Rep A σ w) (c0:Array Value) (T0:TypeId):Rep A σ (w.alloc (.cells c0 T0))∧Grow A.L w A.L (w.alloc (.cells c0 T0))∧Fix A.L (w.alloc (.cells c0 T0)) (w.heap.size) (.cells c0 T0):=by
 exact⟨hR.alloc _,Grow.alloc _ _ _,fix_next hR.mem.fresh _ rfl⟩
theorem allocs2 {A:Book} {σ:St} {w:World} (hR:Rep A σ w) (c0:Array Value) (T0:TypeId) (c1:Array Value) (T1:TypeId):Rep A σ ((w.alloc (.cells c0 T0)).alloc (.cells c1 T1))∧Grow A.L w A.L ((w.alloc (.cells c0 T0)).alloc (.cells c1 T1))∧Fix A.L ((w.alloc (.cells c0 T0)).alloc (.cells c1 T1)) (w.heap.size) (.cells c0 T0)∧Fix A.L ((w.alloc (.cells c0 T0)).alloc (.cells c1 T1)) (w.heap.size+1) (.cells c1 T1):=by
 obtain⟨r,g,f0⟩:=allocs1 hR c0 T0;have k:=Grow.alloc A.L (w.alloc (.cells c0 T0)) (.cells c1 T1);exact⟨r.alloc _,g.trans k,f0.grow k,fix_next r.mem.fresh _ (by simp)⟩
theorem allocs3 {A:Book} {σ:St} {w:World} (hR:Rep A σ w) (c0:Array Value) (T0:TypeId) (c1:Array Value) (T1:TypeId) (c2:Array Value) (T2:TypeId):Rep A σ (((w.alloc (.cells c0 T0)).alloc (.cells c1 T1)).alloc (.cells c2 T2))∧Grow A.L w A.L (((w.alloc (.cells c0 T0)).alloc (.cells c1 T1)).alloc (.cells c2 T2))∧Fix A.L (((w.alloc (.cells c0 T0)).alloc (.cells c1 T1)).alloc (.cells c2 T2)) (w.heap.size) (.cells c0 T0)∧Fix A.L (((w.alloc (.cells c0 T0)).alloc (.cells c1 T1)).alloc (.cells c2 T2)) (w.heap.size+1) (.cells c1 T1)∧Fix A.L (((w.alloc (.cells c0 T0)).alloc (.cells c1 T1)).alloc (.cells c2 T2)) (w.heap.size+2) (.cells c2 T2):=by
 obtain⟨r,g,f0,f1⟩:=allocs2 hR c0 T0 c1 T1;have k:=Grow.alloc A.L ((w.alloc (.cells c0 T0)).alloc (.cells c1 T1)) (.cells c2 T2);exact⟨r.alloc _,g.trans k,f0.grow k,f1.grow k,fix_next r.mem.fresh _ (by simp)⟩
theorem allocs4 {A:Book} {σ:St} {w:World} (hR:Rep A σ w) (c0:Array Value) (T0:TypeId) (c1:Array Value) (T1:TypeId) (c2:Array Value) (T2:TypeId) (c3:Array Value) (T3:TypeId):Rep A σ ((((w.alloc (.cells c0 T0)).alloc (.cells c1 T1)).alloc (.cells c2 T2)).alloc (.cells c3 T3))∧Grow A.L w A.L ((((w.alloc (.cells c0 T0)).alloc (.cells c1 T1)).alloc (.cells c2 T2)).alloc (.cells c3 T3))∧Fix A.L ((((w.alloc (.cells c0 T0)).alloc (.cells c1 T1)).alloc (.cells c2 T2)).alloc (.cells c3 T3)) (w.heap.size) (.cells c0 T0)∧Fix A.L ((((w.alloc (.cells c0 T0)).alloc (.cells c1 T1)).alloc (.cells c2 T2)).alloc (.cells c3 T3)) (w.heap.size+1) (.cells c1 T1)∧Fix A.L ((((w.alloc (.cells c0 T0)).alloc (.cells c1 T1)).alloc (.cells c2 T2)).alloc (.cells c3 T3)) (w.heap.size+2) (.cells c2 T2)∧Fix A.L ((((w.alloc (.cells c0 T0)).alloc (.cells c1 T1)).alloc (.cells c2 T2)).alloc (.cells c3 T3)) (w.heap.size+3) (.cells c3 T3):=by
 obtain⟨r,g,f0,f1,f2⟩:=allocs3 hR c0 T0 c1 T1 c2 T2;have k:=Grow.alloc A.L (((w.alloc (.cells c0 T0)).alloc (.cells c1 T1)).alloc (.cells c2 T2)) (.cells c3 T3);exact⟨r.alloc _,g.trans k,f0.grow k,f1.grow k,f2.grow k,fix_next r.mem.fresh _ (by simp)⟩
theorem allocs5 {A:Book} {σ:St} {w:World} (hR:Rep A σ w) (c0:Array Value) (T0:TypeId) (c1:Array Value) (T1:TypeId) (c2:Array Value) (T2:TypeId) (c3:Array Value) (T3:TypeId) (c4:Array Value) (T4:TypeId):Rep A σ (((((w.alloc (.cells c0 T0)).alloc (.cells c1 T1)).alloc (.cells c2 T2)).alloc (.cells c3 T3)).alloc (.cells c4 T4))∧Grow A.L w A.L (((((w.alloc (.cells c0 T0)).alloc (.cells c1 T1)).alloc (.cells c2 T2)).alloc (.cells c3 T3)).alloc (.cells c4 T4))∧Fix A.L (((((w.alloc (.cells c0 T0)).alloc (.cells c1 T1)).alloc (.cells c2 T2)).alloc (.cells c3 T3)).alloc (.cells c4 T4)) (w.heap.size) (.cells c0 T0)∧Fix A.L (((((w.alloc (.cells c0 T0)).alloc (.cells c1 T1)).alloc (.cells c2 T2)).alloc (.cells c3 T3)).alloc (.cells c4 T4)) (w.heap.size+1) (.cells c1 T1)∧Fix A.L (((((w.alloc (.cells c0 T0)).alloc (.cells c1 T1)).alloc (.cells c2 T2)).alloc (.cells c3 T3)).alloc (.cells c4 T4)) (w.heap.size+2) (.cells c2 T2)∧Fix A.L (((((w.alloc (.cells c0 T0)).alloc (.cells c1 T1)).alloc (.cells c2 T2)).alloc (.cells c3 T3)).alloc (.cells c4 T4)) (w.heap.size+3) (.cells c3 T3)∧Fix A.L (((((w.alloc (.cells c0 T0)).alloc (.cells c1 T1)).alloc (.cells c2 T2)).alloc (.cells c3 T3)).alloc (.cells c4 T4)) (w.heap.size+4) (.cells c4 T4):=by
 obtain⟨r,g,f0,f1,f2,f3⟩:=allocs4 hR c0 T0 c1 T1 c2 T2 c3 T3;have k:=Grow.alloc A.L ((((w.alloc (.cells c0 T0)).alloc (.cells c1 T1)).alloc (.cells c2 T2)).alloc (.cells c3 T3)) (.cells c4 T4);exact⟨r.alloc _,g.trans k,f0.grow k,f1.grow k,f2.grow k,f3.grow k,fix_next r.mem.fresh _ (by simp)⟩
theorem allocs6 {A:Book} {σ:St} {w:World} (hR:Rep A σ w) (c0:Array Value) (T0:TypeId) (c1:Array Value) (T1:TypeId) (c2:Array Value) (T2:TypeId) (c3:Array Value) (T3:TypeId) (c4:Array Value) (T4:TypeId) (c5:Array Value) (T5:TypeId):Rep A σ ((((((w.alloc (.cells c0 T0)).alloc (.cells c1 T1)).alloc (.cells c2 T2)).alloc (.cells c3 T3)).alloc (.cells c4 T4)).alloc (.cells c5 T5))∧Grow A.L w A.L ((((((w.alloc (.cells c0 T0)).alloc (.cells c1 T1)).alloc (.cells c2 T2)).alloc (.cells c3 T3)).alloc (.cells c4 T4)).alloc (.cells c5 T5))∧Fix A.L ((((((w.alloc (.cells c0 T0)).alloc (.cells c1 T1)).alloc (.cells c2 T2)).alloc (.cells c3 T3)).alloc (.cells c4 T4)).alloc (.cells c5 T5)) (w.heap.size) (.cells c0 T0)∧Fix A.L ((((((w.alloc (.cells c0 T0)).alloc (.cells c1 T1)).alloc (.cells c2 T2)).alloc (.cells c3 T3)).alloc (.cells c4 T4)).alloc (.cells c5 T5)) (w.heap.size+1) (.cells c1 T1)∧Fix A.L ((((((w.alloc (.cells c0 T0)).alloc (.cells c1 T1)).alloc (.cells c2 T2)).alloc (.cells c3 T3)).alloc (.cells c4 T4)).alloc (.cells c5 T5)) (w.heap.size+2) (.cells c2 T2)∧Fix A.L ((((((w.alloc (.cells c0 T0)).alloc (.cells c1 T1)).alloc (.cells c2 T2)).alloc (.cells c3 T3)).alloc (.cells c4 T4)).alloc (.cells c5 T5)) (w.heap.size+3) (.cells c3 T3)∧Fix A.L ((((((w.alloc (.cells c0 T0)).alloc (.cells c1 T1)).alloc (.cells c2 T2)).alloc (.cells c3 T3)).alloc (.cells c4 T4)).alloc (.cells c5 T5)) (w.heap.size+4) (.cells c4 T4)∧Fix A.L ((((((w.alloc (.cells c0 T0)).alloc (.cells c1 T1)).alloc (.cells c2 T2)).alloc (.cells c3 T3)).alloc (.cells c4 T4)).alloc (.cells c5 T5)) (w.heap.size+5) (.cells c5 T5):=by
 obtain⟨r,g,f0,f1,f2,f3,f4⟩:=allocs5 hR c0 T0 c1 T1 c2 T2 c3 T3 c4 T4;have k:=Grow.alloc A.L (((((w.alloc (.cells c0 T0)).alloc (.cells c1 T1)).alloc (.cells c2 T2)).alloc (.cells c3 T3)).alloc (.cells c4 T4)) (.cells c5 T5);exact⟨r.alloc _,g.trans k,f0.grow k,f1.grow k,f2.grow k,f3.grow k,f4.grow k,fix_next r.mem.fresh _ (by simp)⟩
theorem older_any {A:Book} {σ:St} {w:World} (hR:Rep A σ w) (s:Nat) (bh:Nat) (h:Hunt) (hh:HuntAt (kp A σ s) A.L w bh h) (link:Nat):
 Calls Tryz.prog 198 #[.pointer (some ⟨bh,0,none⟩),zu (link:Int)] w (Tells A w s (σ,.older h link)):=by
 have F:=zH (allocs2 hR #[.pointer (some ⟨bh,0,none⟩)] 233 #[zu (link:Int)] 24);have HH:=zH hh;clear hh;clear hR;go_enter Tryz.func198,Tryz.ntmps198;go_wp2;go_ret;obtain⟨r1,r2,f0,f1⟩:=F.out;exact⟨A,_,rfl,r1,r2,Stay.refl _ _,_,_,rfl,⟨_,f0.box,HH.out.grow r2⟩,f1.box⟩
theorem ended_any {A:Book} {σ:St} {w:World} (hR:Rep A σ w) (s:Nat) (bh:Nat) (h:Hunt) (hh:HuntAt (kp A σ s) A.L w bh h) (link:Nat) (mb:Nat):
 Calls Tryz.prog 197 #[.pointer (some ⟨bh,0,none⟩),zu (link:Int),zi (mb:Int)] w (Tells A w s (σ,.ended h link mb)):=by
 have F:=zH (allocs3 hR #[.pointer (some ⟨bh,0,none⟩)] 233 #[zu (link:Int)] 24 #[zi (mb:Int)] 3);have HH:=zH hh;clear hh;clear hR;go_enter Tryz.func197,Tryz.ntmps197;go_wp2;go_ret;obtain⟨r1,r2,f0,f1,f2⟩:=F.out;exact⟨A,_,rfl,r1,r2,Stay.refl _ _,_,_,_,rfl,⟨_,f0.box,HH.out.grow r2⟩,f1.box,f2.box⟩
theorem ender_any {A:Book} {σ:St} {w:World} (hR:Rep A σ w) (s:Nat) (bh:Nat) (h:Hunt) (hh:HuntAt (kp A σ s) A.L w bh h) (link:Nat) (mb:Nat) (id:Nat):
 Calls Tryz.prog 211 #[.pointer (some ⟨bh,0,none⟩),zu (link:Int),zi (mb:Int),zi (id:Int)] w (Tells A w s (σ,.ender h link mb id)):=by
 have F:=zH (allocs4 hR #[.pointer (some ⟨bh,0,none⟩)] 233 #[zu (link:Int)] 24 #[zi (mb:Int)] 3 #[zi (id:Int)] 3);have HH:=zH hh;clear hh;clear hR;go_enter Tryz.func211,Tryz.ntmps211;go_wp2;go_ret;obtain⟨r1,r2,f0,f1,f2,f3⟩:=F.out;exact⟨A,_,rfl,r1,r2,Stay.refl _ _,_,_,_,_,rfl,⟨_,f0.box,HH.out.grow r2⟩,f3.box,f1.box,f2.box⟩
theorem draw_any {A:Book} {σ:St} {w:World} (hR:Rep A σ w) (s:Nat):
 Calls Tryz.prog 84 #[.pointer (some ⟨A.be,0,none⟩),.pointer (some ⟨A.bt s,0,none⟩),.pointer (some ⟨A.bc s,0,none⟩)] w (Tells A w s (σ,.draw)):=by
 have F:=zH (allocs3 hR #[.pointer (some ⟨A.be,0,none⟩)] 27 #[.pointer (some ⟨A.bt s,0,none⟩)] 102 #[.pointer (some ⟨A.bc s,0,none⟩)] 107);clear hR;go_enter Tryz.func84,Tryz.ntmps84;go_wp2;go_ret;obtain⟨r1,r2,f0,f1,f2⟩:=F.out;exact⟨A,_,rfl,r1,r2,Stay.refl _ _,_,_,_,rfl,f0.box,f1.box,f2.box⟩
theorem commit_any {A:Book} {σ:St} {w:World} (hR:Rep A σ w) (s:Nat):
 Calls Tryz.prog 162 #[.pointer (some ⟨A.be,0,none⟩),.pointer (some ⟨A.bt s,0,none⟩),.pointer (some ⟨A.bc s,0,none⟩)] w (Tells A w s (σ,.commit)):=by
 have F:=zH (allocs3 hR #[.pointer (some ⟨A.be,0,none⟩)] 27 #[.pointer (some ⟨A.bt s,0,none⟩)] 102 #[.pointer (some ⟨A.bc s,0,none⟩)] 107);clear hR;go_enter Tryz.func162,Tryz.ntmps162;go_wp2;go_ret;obtain⟨r1,r2,f0,f1,f2⟩:=F.out;exact⟨A,_,rfl,r1,r2,Stay.refl _ _,_,_,_,rfl,f0.box,f1.box,f2.box⟩
theorem abort_any {A:Book} {σ:St} {w:World} (hR:Rep A σ w) (s:Nat) (er:Nat) (reason:Nat):
 Calls Tryz.prog 85 #[.pointer (some ⟨A.be,0,none⟩),.pointer (some ⟨A.bt s,0,none⟩),.pointer (some ⟨A.bc s,0,none⟩),zi (er:Int),zi (reason:Int)] w (Tells A w s (σ,.abort er reason)):=by
 have F:=zH (allocs5 hR #[.pointer (some ⟨A.be,0,none⟩)] 27 #[.pointer (some ⟨A.bt s,0,none⟩)] 102 #[.pointer (some ⟨A.bc s,0,none⟩)] 107 #[zi (er:Int)] 26 #[zi (reason:Int)] 3);clear hR;go_enter Tryz.func85,Tryz.ntmps85;go_wp2;go_ret;obtain⟨r1,r2,f0,f1,f2,f3,f4⟩:=F.out;exact⟨A,_,rfl,r1,r2,Stay.refl _ _,_,_,_,_,_,rfl,f0.box,f1.box,f4.box,f2.box,f3.box⟩
theorem fresh_any {A:Book} {σ:St} {w:World} (hR:Rep A σ w) (s:Nat) (link:Nat):
 Calls Tryz.prog 125 #[.pointer (some ⟨A.be,0,none⟩),.pointer (some ⟨A.bt s,0,none⟩),.pointer (some ⟨A.bc s,0,none⟩),zu (link:Int)] w (Tells A w s (σ,.fresh link)):=by
 have F:=zH (allocs4 hR #[.pointer (some ⟨A.be,0,none⟩)] 27 #[.pointer (some ⟨A.bt s,0,none⟩)] 102 #[.pointer (some ⟨A.bc s,0,none⟩)] 107 #[zu (link:Int)] 24);clear hR;go_enter Tryz.func125,Tryz.ntmps125;go_wp2;go_ret;obtain⟨r1,r2,f0,f1,f2,f3⟩:=F.out;exact⟨A,_,rfl,r1,r2,Stay.refl _ _,_,_,_,_,rfl,f0.box,f2.box,f1.box,f3.box⟩
theorem own_any {A:Book} {σ:St} {w:World} (hR:Rep A σ w) (s:Nat) (link:Nat):
 Calls Tryz.prog 126 #[.pointer (some ⟨A.be,0,none⟩),.pointer (some ⟨A.bt s,0,none⟩),.pointer (some ⟨A.bc s,0,none⟩),zu (link:Int)] w (Tells A w s (σ,.own link)):=by
 have F:=zH (allocs4 hR #[.pointer (some ⟨A.be,0,none⟩)] 27 #[.pointer (some ⟨A.bt s,0,none⟩)] 102 #[.pointer (some ⟨A.bc s,0,none⟩)] 107 #[zu (link:Int)] 24);clear hR;go_enter Tryz.func126,Tryz.ntmps126;go_wp2;go_ret;obtain⟨r1,r2,f0,f1,f2,f3⟩:=F.out;exact⟨A,_,rfl,r1,r2,Stay.refl _ _,_,_,_,_,rfl,f0.box,f3.box,f1.box,f2.box⟩
theorem claim_any {A:Book} {σ:St} {w:World} (hR:Rep A σ w) (s:Nat) (link:Nat) (x:Nat):
 Calls Tryz.prog 153 #[.pointer (some ⟨A.be,0,none⟩),.pointer (some ⟨A.bt s,0,none⟩),.pointer (some ⟨A.bc s,0,none⟩),zu (link:Int),zu (x:Int)] w (Tells A w s (σ,.claim link x)):=by
 have F:=zH (allocs5 hR #[.pointer (some ⟨A.be,0,none⟩)] 27 #[.pointer (some ⟨A.bt s,0,none⟩)] 102 #[.pointer (some ⟨A.bc s,0,none⟩)] 107 #[zu (link:Int)] 24 #[zu (x:Int)] 24);clear hR;go_enter Tryz.func153,Tryz.ntmps153;go_wp2;go_ret;obtain⟨r1,r2,f0,f1,f2,f3,f4⟩:=F.out;exact⟨A,_,rfl,r1,r2,Stay.refl _ _,_,_,_,_,_,rfl,f0.box,f3.box,f4.box,f1.box,f2.box⟩
theorem push_any {A:Book} {σ:St} {w:World} (hR:Rep A σ w) (s:Nat) (link:Nat) (head:Nat):
 Calls Tryz.prog 169 #[.pointer (some ⟨A.be,0,none⟩),.pointer (some ⟨A.bt s,0,none⟩),.pointer (some ⟨A.bc s,0,none⟩),zu (link:Int),zu (head:Int)] w (Tells A w s (σ,.push link head)):=by
 have F:=zH (allocs5 hR #[.pointer (some ⟨A.be,0,none⟩)] 27 #[.pointer (some ⟨A.bt s,0,none⟩)] 102 #[.pointer (some ⟨A.bc s,0,none⟩)] 107 #[zu (link:Int)] 24 #[zu (head:Int)] 24);clear hR;go_enter Tryz.func169,Tryz.ntmps169;go_wp2;go_ret;obtain⟨r1,r2,f0,f1,f2,f3,f4⟩:=F.out;exact⟨A,_,rfl,r1,r2,Stay.refl _ _,_,_,_,_,_,rfl,f0.box,f3.box,f4.box,f2.box,f1.box⟩
theorem ends_any {A:Book} {σ:St} {w:World} (hR:Rep A σ w) (s:Nat) (r:Res) (vp:Value) (hp:(vp=A.vpairs s∧r.pairs=(σ.c s).r.pairs)∨(vp=.slice none 0 0∧r.pairs=[])):
 Calls Tryz.prog 107 #[.pointer (some ⟨A.be,0,none⟩),.pointer (some ⟨A.bc s,0,none⟩),.agg #[zi (r.e:Int),zi (r.value:Int),vp,zi (r.over:Int),zi (r.reason:Int)]] w (Tells A w s (σ,.fin r)):=by
 have F:=zH (allocs3 hR #[.pointer (some ⟨A.be,0,none⟩)] 27 #[.pointer (some ⟨A.bc s,0,none⟩)] 107 #[zi (r.e:Int),zi (r.value:Int),vp,zi (r.over:Int),zi (r.reason:Int)] 42);have HP:=zH hp;clear hR hp;go_enter Tryz.func107,Tryz.ntmps107;go_wp2;go_ret;obtain⟨r1,r2,f0,f1,f2⟩:=F.out;exact⟨A,_,rfl,r1,r2,Stay.refl _ _,_,_,_,rfl,f0.box,f1.box,_,_,f2,HP.out⟩
theorem ends_at {A:Book} {σ:St} {w:World} (hR:Rep A σ w) (s:Nat) (r:Res) (re rv ro rr:Int) (vp:Value) (hcs:resCs r vp=[zi re,zi rv,vp,zi ro,zi rr]) (hp:(vp=A.vpairs s∧r.pairs=(σ.c s).r.pairs)∨(vp=.slice none 0 0∧r.pairs=[])):
 Calls Tryz.prog 107 #[.pointer (some ⟨A.be,0,none⟩),.pointer (some ⟨A.bc s,0,none⟩),.agg #[zi re,zi rv,vp,zi ro,zi rr]] w (Tells A w s (σ,.fin r)):=by
 have h:=ends_any hR s r vp hp;simp only[resCs,List.cons.injEq,Value.int.injEq,true_and,and_true] at hcs;obtain⟨e1,e2,e3,e4⟩:=hcs;rw[e1,e2,e3,e4] at h;exact h
end Go.Proofs.YtbefcdjcefmicaaGreat.Em
