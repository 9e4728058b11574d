import Derived.Test.YthicolbbmjfkfaaGreatQf1
import Derived.Test.YthicolbbmjfkfaaGreatQf2
import Derived.Deep.RegionHeld3
import Derived.Deep.RegionLaw
import Derived.MapKept
import Derived.Laws.EntriesVeiled
import Derived.Laws.LoneSync
set_option linter.unusedVariables false
set_option linter.unusedSimpArgs false
set_option maxRecDepth 100000
set_option maxHeartbeats 1600000
namespace Go.Proofs.YthicolbbmjfkfaaGreat.Em
open Go.ChangeShapes Go.WideShapes Go.ChangeAt Go.RowKit En
variable {A:az} {D:St} {w:World}
theorem EL {l w:Nat} (h1:1<=l % 131072):((af l w:Nat):Int)=73+((l:Int) % 131072 - 1)*3+(w:Int):=by
 unfold af ag;omega
theorem Cj (l k:Nat) (h1:1<=l % 131072) (h2:l % 131072<=256) (hl:l<18446744073709551616) (Y:k<=2) (w:World):
 zk 85 #[zu l,I k] w fun e E=>e=.returned (I ((af l k:Nat):Int))∧w=E:=by
 rw[EL h1];have hu:=Word.oW (l:Int) (by omega) (by omega) w;generalize hi:(l:Int) % 131072 - 1=i at*;have b1:0<=i:=by omega
 have b2:i<=255:=by omega
 generalize hj:(k:Int)=j at*;have b3:0<=j:=by omega
 have b4:j<=2:=by omega
 have HU:=U hu;clear h1 h2 hl Y hi hj hu;go_enter Tryz.func85,Tryz.ntmps85;go_wp2_with (go_at_call 107;refine HU.out.mono ?_;rintro e E ⟨rfl,rfl⟩);go_ret;exact⟨rfl,rfl⟩
theorem yL (h:aF A D w) (id:Nat) (hid:id<=65535):
 zk 48 #[R A.V 0,I id] w fun e E=>e=.returned (I ((D.place id:Nat):Int))∧w=E:=by
 have c0:w.cell? (J A.V 0)=zt (D.aG:Int):=h.bT 0 rfl;have hsl:=h.sl;have e:((D.place id:Nat):Int)=73+(D.aG:Int)*3+(id:Int):=by unfold St.place;omega
 rw[e];clear e;generalize hs:(D.aG:Int)=s at*;have b1:1<=s:=by omega
 have b2:s<=256:=by omega
 generalize hj:(id:Int)=j at*;have b3:0<=j:=by omega
 have b4:j<=65535:=by omega
 clear h hsl hs hj hid;go_enter Tryz.func48,Tryz.ntmps48;go_wp2;go_ret;exact⟨rfl,rfl⟩
theorem JX (st en:Nat) (h1:st<8) (h2:en<1152921504606846976) (w:World):
 zk 49 #[I st,zu en] w fun e E=>e=.returned (zu ((pack st en:Nat):Int))∧w=E:=by
 have e:((pack st en:Nat):Int)=(en:Int)*8+(st:Int):=by unfold pack;omega
 rw[e];clear e;have eo:=Bt.Ng (en:Int) (st:Int) (by omega) (by omega) (by omega) (by omega);have ew:IntKind.u64.wrap (st:Int)=(st:Int):=by rw[IntKind.wrap_u64];omega
 have es:IntKind.u64.wrap ((en:Int)*8)=(en:Int)*8:=by rw[IntKind.wrap_u64];omega
 generalize hs:(en:Int)=s at*;have b1:0<=s:=by omega
 have b2:s<1152921504606846976:=by omega
 generalize hj:(st:Int)=j at*;have b3:0<=j:=by omega
 have b4:j<8:=by omega
 clear hs hj h1 h2;go_enter Tryz.func49,Tryz.ntmps49;go_wp2;go_ret;exact⟨rfl,rfl⟩
theorem lD (s e:Int) (st en:Nat) (hs:(st:Int)=s) (he:(en:Int)=e) (h1:st<8) (h2:en<1152921504606846976) (w:World):
 zk 49 #[I s,zu e] w fun e E=>e=.returned (zu ((pack st en:Nat):Int))∧E=w:=by
 subst hs he;exact (JX st en h1 h2 w).mono fun _ _ h=>⟨h.1,h.2.symm⟩
theorem iX (x:Nat) (hx:x<18446744073709551616) (w:World):
 zk 109 #[zu x] w fun e E=>e=.returned (.tuple #[I ((bA x:Nat):Int),zu ((il x:Nat):Int)])∧w=E:=by
 have e1:((bA x:Nat):Int)=(x:Int) % 8:=by unfold bA;omega
 have e2:((il x:Nat):Int)=(x:Int) / 8:=by unfold il;omega
 rw[e1,e2];clear e1 e2;have ea:=Bt.JS (x:Int);have b0:0<=(x:Int):=by omega
 have b1:(x:Int)<18446744073709551616:=by omega
 have ew:IntKind.i64.wrap ((x:Int) % 8)=(x:Int) % 8:=by rw[je];omega
 generalize hs:(x:Int)=s at*;clear hs hx;go_enter Tryz.func109,Tryz.ntmps109;go_wp2
 go_ret2
 exact⟨rfl,rfl⟩
theorem oF (t id:Nat) (h1:t<281474976710656) (h2:id<65536) (w:World):
 zk 46 #[zu t,I id] w fun e E=>e=.returned (zu ((aV t id:Nat):Int))∧w=E:=by
 have e:((aV t id:Nat):Int)=(t:Int)*65536+(id:Int):=by unfold aV;omega
 rw[e];clear e;have eo:=Bt.u64_or16 (t:Int) (id:Int) (by omega) (by omega) (by omega) (by omega);have ew:IntKind.u64.wrap (id:Int)=(id:Int):=by rw[IntKind.wrap_u64];omega
 have es:IntKind.u64.wrap ((t:Int)*65536)=(t:Int)*65536:=by rw[IntKind.wrap_u64];omega
 generalize hs:(t:Int)=s at*;have b1:0<=s:=by omega
 have b2:s<281474976710656:=by omega
 generalize hj:(id:Int)=j at*;have b3:0<=j:=by omega
 have b4:j<65536:=by omega
 clear hs hj h1 h2;go_enter Tryz.func46,Tryz.ntmps46;go_wp2;go_ret;exact⟨rfl,rfl⟩
theorem jI (x:Nat) (hx:x<18446744073709551616) (w:World):
 zk 43 #[zu x] w fun e E=>e=.returned (.tuple #[zu ((aj x:Nat):Int),I ((aZ x:Nat):Int)])∧w=E:=by
 have e1:((aZ x:Nat):Int)=(x:Int) % 65536:=by unfold aZ;omega
 have e2:((aj x:Nat):Int)=(x:Int) / 65536:=by unfold aj;omega
 rw[e1,e2];clear e1 e2;have ea:=Bt.sD (x:Int);have b0:0<=(x:Int):=by omega
 have b1:(x:Int)<18446744073709551616:=by omega
 have ew:IntKind.i64.wrap ((x:Int) % 65536)=(x:Int) % 65536:=by rw[je];omega
 generalize hs:(x:Int)=s at*;clear hs hx;go_enter Tryz.func43,Tryz.ntmps43;go_wp2
 go_ret2
 exact⟨rfl,rfl⟩
theorem vT (h:aF A D w) (x:Nat) (hx:x<18446744073709551616) (hi:aZ x<=2000) (hc:D.count<4000000000000000000):
 zk 44 #[R A.V 0,zu x] w (uL A w (D.dw x) (.tuple #[])):=by
 have c2:w.cell? (J A.V 2)=zs A.ba 0:=h.bT 2 rfl;have k1:=jI x hx w;have k2:=(yL h.drew (aZ x) (by omega)).mono fun e E h=>(⟨h.1,h.2.symm⟩:_∧E=w.drew)
 have k3:=lD 1 0 1 0 rfl rfl (by omega) (by omega) w.drew;have k4:=lD 2 (aj x) 2 (aj x) rfl rfl (by omega) (by unfold aj;omega) w.drew;have k5:=nH h (D.place (aZ x)) (pack 1 0) (pack 2 (aj x)) (by rw[h.nw];unfold St.place;omega) hc;have K1:=U k1;have K2:=U k2;have K3:=U k3;have K4:=U k4;clear k5;have k6:=nH h.drew (D.place (aZ x)) (pack 1 0) (pack 2 (aj x)) (by rw[h.nw];unfold St.place;omega) hc;have G0:Grow A.L w A.L w.drew:=Grow.drew _ _;have K5:=U k6;have HG:=U G0;clear k1 k2 k3 k4 k6 h hx hi hc G0;go_enter Tryz.func44,Tryz.ntmps44;go_wp2_with (go_at_call 43;refine K1.out.mono ?_;rintro e E ⟨rfl,rfl⟩);refine wp_region_still_tail 10 (by kernel_rfl) (by kernel_rfl) ?_;simp only[jZ,j6,kg,kr]
 repeat still_step
 still_call K2.out
 still_call K3.out
 repeat still_step
 still_call K4.out
 refine wpStill_nil ?_;change wpList _ _ _ _ _ w.drew;generalize w.drew=w2 at*;go_wp2_with (go_at_call 45;refine K5.out.mono ?_;rintro e E ⟨rfl,hR,hG⟩)
 go_end0
 exact⟨rfl,hR,HG.out.trans hG⟩
def jA (e:Nat) (L:eH) (w:World) (v:Value):Option S->Prop
 |none=>v=.nilFunc
 |some .now=>v=.func (.func 74) #[ptr e] #[]
 |some (.live s)=>∃ b0 b1,v=.func (.func 136) #[] #[ptr b0,ptr b1]∧aP L w b0 (ptr e)∧aP L w b1 (i64 s)
 |some (.head F)=>∃ b0 b1,v=.func (.func 159) #[] #[ptr b0,ptr b1]∧aP L w b0 (ptr e)∧aP L w b1 (i64 F)
 |some (.visit F ak G)=>∃ b0 b1 b2 b3,v=.func (.func 179) #[] #[ptr b0,ptr b1,ptr b2,ptr b3]∧aP L w b0 (ptr e)∧aP L w b1 (u64 G)∧aP L w b2 (i64 F)∧aP L w b3 (u64 ak)
 |some (.maker F ak G id)=>∃ b0 b1 b2 b3 b4,v=.func (.func 195) #[] #[ptr b0,ptr b1,ptr b2,ptr b3,ptr b4]∧aP L w b0 (ptr e)∧aP L w b1 (i64 id)∧aP L w b2 (i64 F)∧aP L w b3 (u64 ak)∧aP L w b4 (u64 G)
 |some (.dC F ak G b)=>∃ b0 b1 b2 b3 b4,v=.func (.func 198) #[] #[ptr b0,ptr b1,ptr b2,ptr b3,ptr b4]∧aP L w b0 (u64 b)∧aP L w b1 (ptr e)∧aP L w b2 (u64 G)∧aP L w b3 (i64 F)∧aP L w b4 (u64 ak)
 |some (.on F G)=>∃ b0 b1 b2,v=.func (.func 209) #[] #[ptr b0,ptr b1,ptr b2]∧aP L w b0 (ptr e)∧aP L w b1 (i64 F)∧aP L w b2 (u64 G)
 |some (.unlink F ak G)=>∃ b0 b1 b2 b3,v=.func (.func 207) #[] #[ptr b0,ptr b1,ptr b2,ptr b3]∧aP L w b0 (ptr e)∧aP L w b1 (u64 G)∧aP L w b2 (i64 F)∧aP L w b3 (u64 ak)
 |some (.cut F ak G nx)=>∃ b0 b1 b2 b3 b4,v=.func (.func 222) #[] #[ptr b0,ptr b1,ptr b2,ptr b3,ptr b4]∧aP L w b0 (u64 ak)∧aP L w b1 (ptr e)∧aP L w b2 (u64 nx)∧aP L w b3 (i64 F)∧aP L w b4 (u64 G)
theorem jA.grow {e:Nat} {L L':eH} {w E:World} {v:Value} (g:Grow L w L' E):∀ {k:Option S},jA e L w v k->jA e L' E v k
 |none,h=>h
 |some .now,h=>h
 |some (.live s),h=>let ⟨b0,b1,e,k0,k1⟩:=h;⟨b0,b1,e,k0.grow g,k1.grow g⟩
 |some (.head F),h=>let ⟨b0,b1,e,k0,k1⟩:=h;⟨b0,b1,e,k0.grow g,k1.grow g⟩
 |some (.visit F ak G),h=>let ⟨b0,b1,b2,b3,e,k0,k1,k2,k3⟩:=h;⟨b0,b1,b2,b3,e,k0.grow g,k1.grow g,k2.grow g,k3.grow g⟩
 |some (.maker F ak G id),h=>let ⟨b0,b1,b2,b3,b4,e,k0,k1,k2,k3,k4⟩:=h;⟨b0,b1,b2,b3,b4,e,k0.grow g,k1.grow g,k2.grow g,k3.grow g,k4.grow g⟩
 |some (.dC F ak G b),h=>let ⟨b0,b1,b2,b3,b4,e,k0,k1,k2,k3,k4⟩:=h;⟨b0,b1,b2,b3,b4,e,k0.grow g,k1.grow g,k2.grow g,k3.grow g,k4.grow g⟩
 |some (.on F G),h=>let ⟨b0,b1,b2,e,k0,k1,k2⟩:=h;⟨b0,b1,b2,e,k0.grow g,k1.grow g,k2.grow g⟩
 |some (.unlink F ak G),h=>let ⟨b0,b1,b2,b3,e,k0,k1,k2,k3⟩:=h;⟨b0,b1,b2,b3,e,k0.grow g,k1.grow g,k2.grow g,k3.grow g⟩
 |some (.cut F ak G nx),h=>let ⟨b0,b1,b2,b3,b4,e,k0,k1,k2,k3,k4⟩:=h;⟨b0,b1,b2,b3,b4,e,k0.grow g,k1.grow g,k2.grow g,k3.grow g,k4.grow g⟩
def mX (l:List (Nat×Nat)):List Value:=l.flatMap fun p=>[u64 p.1,i64 p.2]
def jd (A:az) (l:List (Nat×Nat)):Prop:=
 (A.hcut=false∧A.jc=.slice none 0 0∧l=[])∨
 (A.hcut=true∧∃ k cap,A.jc=.slice (some ⟨A.gu,2*k,none⟩) l.length cap∧l.length<=cap∧k+cap<=maxLen∧2*(k+cap)<=A.eG.length∧(A.eG.drop (2*k)).take (2*l.length)=mX l)
structure uM (A:az) (D:St) (w:World):Prop where
 sw:jA A.V A.L w (A.sv D.sw) D.sw
 cu:jd A D.cut
def az.Gz (A:az):Nat×(Value×Value×Bool×Nat×List Value):=(A.V,A.Ux)
theorem Ar {A A':az} (h:A'.Gz=A.Gz):A'.V=A.V:=congrArg (·.1) h
theorem JY {A A':az} (h:A'.Gz=A.Gz) (x:Option S):A'.sv x=A.sv x:=by
 have:A'.eP=A.eP:=congrArg (·.2.1) h;unfold az.sv;rw[this]
theorem jd.keep {A A':az} {l:List (Nat×Nat)} (h:jd A l) (e:A'.Gz=A.Gz):jd A' l:=by
 have c1:A'.jc=A.jc:=congrArg (·.2.2.1) e;have c2:A'.hcut=A.hcut:=congrArg (·.2.2.2.1) e;have c3:A'.gu=A.gu:=congrArg (·.2.2.2.2.1) e;have c4:A'.eG=A.eG:=congrArg (·.2.2.2.2.2) e;unfold jd;rw[c1,c2,c3,c4];exact h
theorem uM.keep {A A':az} {D bF:St} {w E:World} (h:uM A D w) (e:A'.Gz=A.Gz) (hs:bF.sw=D.sw∧bF.cut=D.cut) (g:Grow A.L w A'.L E):uM A' bF E:=
 ⟨by rw[Ar e,JY e,hs.1];exact h.sw.grow g,by rw[hs.2];exact h.cu.keep e⟩
structure KP where
 e:Nat
 t:Nat
 c:Nat
 x:Nat
 vp:Value
 ps:List (Nat×Nat)
def KP.xo (p:KP) (x:Bool):Value:=if x then ptr p.x else .pointer none
def kp (A:az) (D:St) (s:Nat):KP:=⟨A.V,A.bt s,A.bc s,A.bx s (D.c s).op.F,A.aX s,(D.c s).r.aL⟩
def Ck (r:mo) (vp:Value):List Value:=[i64 r.e,i64 r.value,vp,i64 r.over,i64 r.aI]
def mr (p:KP) (L:eH) (w:World) (b:Nat) (r:mo):Prop:=∃ vp T,Fix L w b (.cells (Ck r vp).toArray T)∧((vp=p.vp∧r.aL=p.ps)∨(vp=.slice none 0 0∧r.aL=[]))
def l7 (L:eH) (w:World) (b id:Nat):Prop:=∃ T,Fix L w b (.cells #[i64 2,u64 id] T)
def nI (L:eH) (w:World) (b G:Nat):Prop:=∃ T F got,Fix L w b (.cells #[i64 F,u64 G,.bool got] T)
def jX (L:eH) (w:World) (b:Nat) (x:Bool) (head:Nat):Prop:=∃ v,aP L w b v∧iJ L w 1 v (if x then [] else [u64 head])
def l8 (l:List yJ):List Value:=l.flatMap fun x=>[i64 x.at_,u64 x.old,u64 x.new]
def nJ (L:eH) (w:World) (b:Nat) (l:List yJ):Prop:=∃ v,aP L w b v∧iJ L w 3 v (l8 l)
def nK (p:KP) (L:eH) (w:World) (b F:Nat):Prop:=∃ v,aP L w b v∧∃ c0 c1,v=.func (.func 117) #[] #[ptr c0,ptr c1]∧aP L w c0 (ptr p.c)∧aP L w c1 (i64 F)
def lT (p:KP) (L:eH) (w:World) (b G head at_:Nat):Prop:=∃ v,aP L w b v∧∃ c0 c1 c2 c3 c4 c5,v=.func (.func 172) #[] #[ptr c0,ptr c1,ptr c2,ptr c3,ptr c4,ptr c5]∧aP L w c0 (ptr p.e)∧aP L w c1 (ptr p.t)∧aP L w c2 (ptr p.c)∧aP L w c3 (u64 G)∧aP L w c4 (u64 head)∧aP L w c5 (u64 at_)
def nL (p:KP) (L:eH) (w:World) (b H now:Nat):Prop:=∃ v,aP L w b v∧∃ c0 c1 c2 c3 c4,v=.func (.func 120) #[] #[ptr c0,ptr c1,ptr c2,ptr c3,ptr c4]∧aP L w c0 (ptr p.e)∧aP L w c1 (u64 H)∧aP L w c2 (u64 now)∧aP L w c3 (ptr p.t)∧aP L w c4 (ptr p.c)
def kM (p:KP) (L:eH) (w:World) (v:Value) (F:Nat):P6->Prop
 |.get=>∃ b0 b1 b2 b3,v=.func (.func 115) #[] #[ptr b0,ptr b1,ptr b2,ptr b3]∧aP L w b0 (ptr p.t)∧aP L w b1 (i64 F)∧aP L w b2 (ptr p.e)∧aP L w b3 (ptr p.c)
 |.scan k=>∃ b0 b1 b2 b3 b4,v=.func (.func 118) #[] #[ptr b0,ptr b1,ptr b2,ptr b3,ptr b4]∧aP L w b0 (ptr p.t)∧aP L w b1 (i64 k)∧nK p L w b2 k∧aP L w b3 (ptr p.e)∧aP L w b4 (ptr p.c)
 |.change=>∃ b0 b1 b2 b3,v=.func (.func 130) #[] #[ptr b0,ptr b1,ptr b2,ptr b3]∧aP L w b0 (ptr p.c)∧aP L w b1 (ptr p.t)∧aP L w b2 (i64 F)∧aP L w b3 (ptr p.e)
 |.judge i l=>∃ b0 b1 b2 b3 b4,v=.func (.func 145) #[] #[ptr b0,ptr b1,ptr b2,ptr b3,ptr b4]∧nI L w b0 l∧aP L w b1 (ptr p.e)∧aP L w b2 (ptr p.t)∧aP L w b3 (ptr p.c)∧aP L w b4 (i64 i)
def dS (p:KP) (L:eH) (w:World) (bh:Nat) (h:dR):Prop:=∃ vt T,Fix L w bh (.cells #[ptr p.e,ptr p.t,i64 h.F,u64 h.at_,vt] T)∧kM p L w vt h.F h.thn
def ic (p:KP) (L:eH) (w:World) (b:Nat) (h:dR):Prop:=∃ bh,aP L w b (ptr bh)∧dS p L w bh h
def nY (p:KP) (L:eH) (w:World) (v:Value):K->Prop
 |.start h=>∃ bh,v=.func (.func 142) #[ptr bh] #[]∧dS p L w bh h
 |.fin r=>∃ b0 b1 b2,v=.func (.func 140) #[] #[ptr b0,ptr b1,ptr b2]∧aP L w b0 (ptr p.e)∧aP L w b1 (ptr p.c)∧mr p L w b2 r
 |.visit h G=>∃ b0 b1,v=.func (.func 182) #[] #[ptr b0,ptr b1]∧ic p L w b0 h∧aP L w b1 (u64 G)
 |.older h G=>∃ b0 b1,v=.func (.func 213) #[] #[ptr b0,ptr b1]∧ic p L w b0 h∧aP L w b1 (u64 G)
 |.maker h G id=>∃ b0 b1 b2,v=.func (.func 202) #[] #[ptr b0,ptr b1,ptr b2]∧ic p L w b0 h∧aP L w b1 (i64 id)∧aP L w b2 (u64 G)
 |.ended h G mb=>∃ b0 b1 b2,v=.func (.func 210) #[] #[ptr b0,ptr b1,ptr b2]∧ic p L w b0 h∧aP L w b1 (u64 G)∧aP L w b2 (i64 mb)
 |.ik h G mb id=>∃ b0 b1 b2 b3,v=.func (.func 225) #[] #[ptr b0,ptr b1,ptr b2,ptr b3]∧ic p L w b0 h∧aP L w b1 (i64 id)∧aP L w b2 (u64 G)∧aP L w b3 (i64 mb)
 |.seen h G mb=>∃ b0 b1 b2,v=.func (.func 223) #[] #[ptr b0,ptr b1,ptr b2]∧ic p L w b0 h∧aP L w b1 (i64 mb)∧aP L w b2 (u64 G)
 |.again ay=>∃ b0 b1 b2 b3,v=.func (.func 152) #[] #[ptr b0,ptr b1,ptr b2,ptr b3]∧aP L w b0 (ptr p.e)∧aP L w b1 (ptr p.x)∧aP L w b2 (u64 ay)∧aP L w b3 (ptr p.c)
 |.own G=>∃ b0 b1 b2 b3,v=.func (.func 155) #[] #[ptr b0,ptr b1,ptr b2,ptr b3]∧aP L w b0 (ptr p.e)∧aP L w b1 (u64 G)∧aP L w b2 (ptr p.t)∧aP L w b3 (ptr p.c)
 |.iw G H id=>∃ b0 b1 b2 b3 b4 b5,v=.func (.func 157) #[] #[ptr b0,ptr b1,ptr b2,ptr b3,ptr b4,ptr b5]∧aP L w b0 (ptr p.e)∧aP L w b1 (i64 id)∧aP L w b2 (ptr p.t)∧aP L w b3 (ptr p.c)∧aP L w b4 (u64 G)∧aP L w b5 (u64 H)
 |.claim G H=>∃ b0 b1 b2 b3 b4,v=.func (.func 176) #[] #[ptr b0,ptr b1,ptr b2,ptr b3,ptr b4]∧aP L w b0 (ptr p.e)∧aP L w b1 (u64 G)∧aP L w b2 (u64 H)∧aP L w b3 (ptr p.t)∧aP L w b4 (ptr p.c)
 |.fresh G=>∃ b0 b1 b2 b3,v=.func (.func 153) #[] #[ptr b0,ptr b1,ptr b2,ptr b3]∧aP L w b0 (ptr p.e)∧aP L w b1 (ptr p.c)∧aP L w b2 (ptr p.t)∧aP L w b3 (u64 G)
 |.next G head at_=>∃ b0 b1 b2 b3 b4 b5,v=.func (.func 172) #[] #[ptr b0,ptr b1,ptr b2,ptr b3,ptr b4,ptr b5]∧aP L w b0 (ptr p.e)∧aP L w b1 (ptr p.t)∧aP L w b2 (ptr p.c)∧aP L w b3 (u64 G)∧aP L w b4 (u64 head)∧aP L w b5 (u64 at_)
 |.free G head at_=>∃ b0 b1 b2 b3 b4 b5,v=.func (.func 173) #[] #[ptr b0,ptr b1,ptr b2,ptr b3,ptr b4,ptr b5]∧aP L w b0 (ptr p.e)∧aP L w b1 (u64 at_)∧aP L w b2 (ptr p.t)∧lT p L w b3 G head at_∧aP L w b4 (ptr p.c)∧aP L w b5 (u64 G)
 |.dX G head at_ id=>∃ b0 b1 b2 b3 b4 b5,v=.func (.func 175) #[] #[ptr b0,ptr b1,ptr b2,ptr b3,ptr b4,ptr b5]∧aP L w b0 (ptr p.e)∧l7 L w b1 id∧aP L w b2 (ptr p.t)∧lT p L w b3 G head at_∧aP L w b4 (ptr p.c)∧aP L w b5 (u64 G)
 |.fJ x G head=>∃ b0 b1 b2 b3 b4 b5,v=.func (.func 168) #[] #[ptr b0,ptr b1,ptr b2,ptr b3,ptr b4,ptr b5]∧aP L w b0 (ptr p.e)∧aP L w b1 (u64 G)∧aP L w b2 (ptr p.t)∧aP L w b3 (p.xo x)∧aP L w b4 (ptr p.c)∧jX L w b5 x head
 |.eU x G head=>∃ b0 b1 b2 b3 b4 b5,v=.func (.func 169) #[] #[ptr b0,ptr b1,ptr b2,ptr b3,ptr b4,ptr b5]∧aP L w b0 (ptr p.e)∧aP L w b1 (u64 G)∧aP L w b2 (p.xo x)∧aP L w b3 (ptr p.t)∧aP L w b4 (ptr p.c)∧jX L w b5 x head
 |.push G head=>∃ b0 b1 b2 b3 b4,v=.func (.func 190) #[] #[ptr b0,ptr b1,ptr b2,ptr b3,ptr b4]∧aP L w b0 (ptr p.e)∧aP L w b1 (u64 G)∧aP L w b2 (u64 head)∧aP L w b3 (ptr p.c)∧aP L w b4 (ptr p.t)
 |.dV G head=>∃ b0 b1 b2 b3 b4,v=.func (.func 191) #[] #[ptr b0,ptr b1,ptr b2,ptr b3,ptr b4]∧aP L w b0 (ptr p.e)∧aP L w b1 (ptr p.c)∧aP L w b2 (u64 head)∧aP L w b3 (u64 G)∧aP L w b4 (ptr p.t)
 |.over G=>∃ b0 b1 b2 b3 b4,v=.func (.func 192) #[] #[ptr b0,ptr b1,ptr b2,ptr b3,ptr b4]∧aP L w b0 (ptr p.e)∧aP L w b1 (ptr p.c)∧aP L w b2 (u64 G)∧aP L w b3 (ptr p.t)∧aP L w b4 (ptr p.x)
 |.iB G head=>∃ b0 b1 b2 b3 b4 b5,v=.func (.func 193) #[] #[ptr b0,ptr b1,ptr b2,ptr b3,ptr b4,ptr b5]∧aP L w b0 (ptr p.e)∧aP L w b1 (u64 G)∧aP L w b2 (u64 head)∧aP L w b3 (ptr p.c)∧aP L w b4 (ptr p.t)∧aP L w b5 (ptr p.x)
 |.eu G head=>∃ b0 b1 b2 b3 b4 b5,v=.func (.func 194) #[] #[ptr b0,ptr b1,ptr b2,ptr b3,ptr b4,ptr b5]∧aP L w b0 (ptr p.e)∧aP L w b1 (ptr p.c)∧aP L w b2 (u64 head)∧aP L w b3 (u64 G)∧aP L w b4 (ptr p.t)∧aP L w b5 (ptr p.x)
 |.draw=>∃ b0 b1 b2,v=.func (.func 119) #[] #[ptr b0,ptr b1,ptr b2]∧aP L w b0 (ptr p.e)∧aP L w b1 (ptr p.t)∧aP L w b2 (ptr p.c)
 |.eX H now=>∃ b0 b1 b2,v=.func (.func 123) #[] #[ptr b0,ptr b1,ptr b2]∧aP L w b0 (ptr p.e)∧aP L w b1 (u64 H)∧nL p L w b2 H now
 |.turn H now=>∃ b0 b1 b2 b3 b4,v=.func (.func 120) #[] #[ptr b0,ptr b1,ptr b2,ptr b3,ptr b4]∧aP L w b0 (ptr p.e)∧aP L w b1 (u64 H)∧aP L w b2 (u64 now)∧aP L w b3 (ptr p.t)∧aP L w b4 (ptr p.c)
 |.eB=>∃ b0 b1 b2,v=.func (.func 121) #[] #[ptr b0,ptr b1,ptr b2]∧aP L w b0 (ptr p.e)∧aP L w b1 (ptr p.t)∧aP L w b2 (ptr p.c)
 |.wait i=>∃ b0 b1 b2 b3 b4,v=.func (.func 164) #[] #[ptr b0,ptr b1,ptr b2,ptr b3,ptr b4]∧aP L w b0 (ptr p.e)∧aP L w b1 (ptr p.t)∧aP L w b2 (i64 i)∧aP L w b3 (ptr p.c)∧aP L w b4 v
 |.turns [] r=>∃ b0 b1 b2 b3,v=.func (.func 149) #[] #[ptr b0,ptr b1,ptr b2,ptr b3]∧aP L w b0 (ptr p.e)∧aP L w b1 (ptr p.t)∧aP L w b2 (ptr p.c)∧mr p L w b3 r
 |.turns (x::l) r=>∃ b0 b1 b2 b3 b4,v=.func (.func 150) #[] #[ptr b0,ptr b1,ptr b2,ptr b3,ptr b4]∧nJ L w b0 (x::l)∧aP L w b1 (ptr p.e)∧aP L w b2 (ptr p.t)∧aP L w b3 (ptr p.c)∧mr p L w b4 r
 |.cZ=>∃ b0 b1 b2,v=.func (.func 184) #[] #[ptr b0,ptr b1,ptr b2]∧aP L w b0 (ptr p.e)∧aP L w b1 (ptr p.t)∧aP L w b2 (ptr p.c)
 |.abort e aI=>∃ b0 b1 b2 b3 b4,v=.func (.func 124) #[] #[ptr b0,ptr b1,ptr b2,ptr b3,ptr b4]∧aP L w b0 (ptr p.e)∧aP L w b1 (ptr p.t)∧aP L w b2 (i64 aI)∧aP L w b3 (ptr p.c)∧aP L w b4 (i64 e)
section
variable {p:KP} {L L':eH} {w E:World}
theorem mr.grow {b:Nat} {r:mo} (h:mr p L w b r) (g:Grow L w L' E):mr p L' E b r:=let ⟨vp,T,h1,h2⟩:=h;⟨vp,T,h1.grow g,h2⟩
theorem l7.grow {b n:Nat} (h:l7 L w b n) (g:Grow L w L' E):l7 L' E b n:=let ⟨T,h1⟩:=h;⟨T,h1.grow g⟩
theorem nI.grow {b n:Nat} (h:nI L w b n) (g:Grow L w L' E):nI L' E b n:=let ⟨T,k,q,h1⟩:=h;⟨T,k,q,h1.grow g⟩
theorem jX.grow {b n:Nat} {x:Bool} (h:jX L w b x n) (g:Grow L w L' E):jX L' E b x n:=let ⟨v,h1,h2⟩:=h;⟨v,h1.grow g,h2.grow g⟩
theorem nJ.grow {b:Nat} {l:List yJ} (h:nJ L w b l) (g:Grow L w L' E):nJ L' E b l:=let ⟨v,h1,h2⟩:=h;⟨v,h1.grow g,h2.grow g⟩
theorem nK.grow {b k:Nat} (h:nK p L w b k) (g:Grow L w L' E):nK p L' E b k:=let ⟨v,h1,c0,c1,e,k0,k1⟩:=h;⟨v,h1.grow g,c0,c1,e,k0.grow g,k1.grow g⟩
theorem lT.grow {b l1 l2 l3:Nat} (h:lT p L w b l1 l2 l3) (g:Grow L w L' E):lT p L' E b l1 l2 l3:=let ⟨v,h1,c0,c1,c2,c3,c4,c5,e,k0,k1,k2,k3,k4,k5⟩:=h;⟨v,h1.grow g,c0,c1,c2,c3,c4,c5,e,k0.grow g,k1.grow g,k2.grow g,k3.grow g,k4.grow g,k5.grow g⟩
theorem nL.grow {b l1 l2:Nat} (h:nL p L w b l1 l2) (g:Grow L w L' E):nL p L' E b l1 l2:=let ⟨v,h1,c0,c1,c2,c3,c4,e,k0,k1,k2,k3,k4⟩:=h;⟨v,h1.grow g,c0,c1,c2,c3,c4,e,k0.grow g,k1.grow g,k2.grow g,k3.grow g,k4.grow g⟩
theorem kM.grow {v:Value} {F:Nat} {t:P6} (h:kM p L w v F t) (g:Grow L w L' E):kM p L' E v F t:=
 match t,h with
 |.get,hh=>let ⟨b0,b1,b2,b3,e,k0,k1,k2,k3⟩:=hh;⟨b0,b1,b2,b3,e,k0.grow g,k1.grow g,k2.grow g,k3.grow g⟩
 |.scan k,hh=>let ⟨b0,b1,b2,b3,b4,e,k0,k1,k2,k3,k4⟩:=hh;⟨b0,b1,b2,b3,b4,e,k0.grow g,k1.grow g,k2.grow g,k3.grow g,k4.grow g⟩
 |.change,hh=>let ⟨b0,b1,b2,b3,e,k0,k1,k2,k3⟩:=hh;⟨b0,b1,b2,b3,e,k0.grow g,k1.grow g,k2.grow g,k3.grow g⟩
 |.judge i l,hh=>let ⟨b0,b1,b2,b3,b4,e,k0,k1,k2,k3,k4⟩:=hh;⟨b0,b1,b2,b3,b4,e,k0.grow g,k1.grow g,k2.grow g,k3.grow g,k4.grow g⟩
theorem dS.grow {b:Nat} {h:dR} (hh:dS p L w b h) (g:Grow L w L' E):dS p L' E b h:=let ⟨v,T,h1,h2⟩:=hh;⟨v,T,h1.grow g,h2.grow g⟩
theorem ic.grow {b:Nat} {h:dR} (hh:ic p L w b h) (g:Grow L w L' E):ic p L' E b h:=let ⟨v,h1,h2⟩:=hh;⟨v,h1.grow g,h2.grow g⟩
theorem nY.grow {v:Value} {k:K} (h:nY p L w v k) (g:Grow L w L' E):nY p L' E v k:=
 match k,h with
 |.start _,⟨bh,e,h1⟩=>⟨bh,e,h1.grow g⟩
 |.fin r,hh=>let ⟨b0,b1,b2,e,k0,k1,k2⟩:=hh;⟨b0,b1,b2,e,k0.grow g,k1.grow g,k2.grow g⟩
 |.visit h G,hh=>let ⟨b0,b1,e,k0,k1⟩:=hh;⟨b0,b1,e,k0.grow g,k1.grow g⟩
 |.older h G,hh=>let ⟨b0,b1,e,k0,k1⟩:=hh;⟨b0,b1,e,k0.grow g,k1.grow g⟩
 |.maker h G id,hh=>let ⟨b0,b1,b2,e,k0,k1,k2⟩:=hh;⟨b0,b1,b2,e,k0.grow g,k1.grow g,k2.grow g⟩
 |.ended h G mb,hh=>let ⟨b0,b1,b2,e,k0,k1,k2⟩:=hh;⟨b0,b1,b2,e,k0.grow g,k1.grow g,k2.grow g⟩
 |.ik h G mb id,hh=>let ⟨b0,b1,b2,b3,e,k0,k1,k2,k3⟩:=hh;⟨b0,b1,b2,b3,e,k0.grow g,k1.grow g,k2.grow g,k3.grow g⟩
 |.seen h G mb,hh=>let ⟨b0,b1,b2,e,k0,k1,k2⟩:=hh;⟨b0,b1,b2,e,k0.grow g,k1.grow g,k2.grow g⟩
 |.again ay,hh=>let ⟨b0,b1,b2,b3,e,k0,k1,k2,k3⟩:=hh;⟨b0,b1,b2,b3,e,k0.grow g,k1.grow g,k2.grow g,k3.grow g⟩
 |.own G,hh=>let ⟨b0,b1,b2,b3,e,k0,k1,k2,k3⟩:=hh;⟨b0,b1,b2,b3,e,k0.grow g,k1.grow g,k2.grow g,k3.grow g⟩
 |.iw G H id,hh=>let ⟨b0,b1,b2,b3,b4,b5,e,k0,k1,k2,k3,k4,k5⟩:=hh;⟨b0,b1,b2,b3,b4,b5,e,k0.grow g,k1.grow g,k2.grow g,k3.grow g,k4.grow g,k5.grow g⟩
 |.claim G H,hh=>let ⟨b0,b1,b2,b3,b4,e,k0,k1,k2,k3,k4⟩:=hh;⟨b0,b1,b2,b3,b4,e,k0.grow g,k1.grow g,k2.grow g,k3.grow g,k4.grow g⟩
 |.fresh G,hh=>let ⟨b0,b1,b2,b3,e,k0,k1,k2,k3⟩:=hh;⟨b0,b1,b2,b3,e,k0.grow g,k1.grow g,k2.grow g,k3.grow g⟩
 |.next G head at_,hh=>let ⟨b0,b1,b2,b3,b4,b5,e,k0,k1,k2,k3,k4,k5⟩:=hh;⟨b0,b1,b2,b3,b4,b5,e,k0.grow g,k1.grow g,k2.grow g,k3.grow g,k4.grow g,k5.grow g⟩
 |.free G head at_,hh=>let ⟨b0,b1,b2,b3,b4,b5,e,k0,k1,k2,k3,k4,k5⟩:=hh;⟨b0,b1,b2,b3,b4,b5,e,k0.grow g,k1.grow g,k2.grow g,k3.grow g,k4.grow g,k5.grow g⟩
 |.dX G head at_ id,hh=>let ⟨b0,b1,b2,b3,b4,b5,e,k0,k1,k2,k3,k4,k5⟩:=hh;⟨b0,b1,b2,b3,b4,b5,e,k0.grow g,k1.grow g,k2.grow g,k3.grow g,k4.grow g,k5.grow g⟩
 |.fJ x G head,hh=>let ⟨b0,b1,b2,b3,b4,b5,e,k0,k1,k2,k3,k4,k5⟩:=hh;⟨b0,b1,b2,b3,b4,b5,e,k0.grow g,k1.grow g,k2.grow g,k3.grow g,k4.grow g,k5.grow g⟩
 |.eU x G head,hh=>let ⟨b0,b1,b2,b3,b4,b5,e,k0,k1,k2,k3,k4,k5⟩:=hh;⟨b0,b1,b2,b3,b4,b5,e,k0.grow g,k1.grow g,k2.grow g,k3.grow g,k4.grow g,k5.grow g⟩
 |.push G head,hh=>let ⟨b0,b1,b2,b3,b4,e,k0,k1,k2,k3,k4⟩:=hh;⟨b0,b1,b2,b3,b4,e,k0.grow g,k1.grow g,k2.grow g,k3.grow g,k4.grow g⟩
 |.dV G head,hh=>let ⟨b0,b1,b2,b3,b4,e,k0,k1,k2,k3,k4⟩:=hh;⟨b0,b1,b2,b3,b4,e,k0.grow g,k1.grow g,k2.grow g,k3.grow g,k4.grow g⟩
 |.over G,hh=>let ⟨b0,b1,b2,b3,b4,e,k0,k1,k2,k3,k4⟩:=hh;⟨b0,b1,b2,b3,b4,e,k0.grow g,k1.grow g,k2.grow g,k3.grow g,k4.grow g⟩
 |.iB G head,hh=>let ⟨b0,b1,b2,b3,b4,b5,e,k0,k1,k2,k3,k4,k5⟩:=hh;⟨b0,b1,b2,b3,b4,b5,e,k0.grow g,k1.grow g,k2.grow g,k3.grow g,k4.grow g,k5.grow g⟩
 |.eu G head,hh=>let ⟨b0,b1,b2,b3,b4,b5,e,k0,k1,k2,k3,k4,k5⟩:=hh;⟨b0,b1,b2,b3,b4,b5,e,k0.grow g,k1.grow g,k2.grow g,k3.grow g,k4.grow g,k5.grow g⟩
 |.draw,hh=>let ⟨b0,b1,b2,e,k0,k1,k2⟩:=hh;⟨b0,b1,b2,e,k0.grow g,k1.grow g,k2.grow g⟩
 |.eX H now,hh=>let ⟨b0,b1,b2,e,k0,k1,k2⟩:=hh;⟨b0,b1,b2,e,k0.grow g,k1.grow g,k2.grow g⟩
 |.turn H now,hh=>let ⟨b0,b1,b2,b3,b4,e,k0,k1,k2,k3,k4⟩:=hh;⟨b0,b1,b2,b3,b4,e,k0.grow g,k1.grow g,k2.grow g,k3.grow g,k4.grow g⟩
 |.eB,hh=>let ⟨b0,b1,b2,e,k0,k1,k2⟩:=hh;⟨b0,b1,b2,e,k0.grow g,k1.grow g,k2.grow g⟩
 |.wait i,hh=>let ⟨b0,b1,b2,b3,b4,e,k0,k1,k2,k3,k4⟩:=hh;⟨b0,b1,b2,b3,b4,e,k0.grow g,k1.grow g,k2.grow g,k3.grow g,k4.grow g⟩
 |.turns [] r,hh=>let ⟨b0,b1,b2,b3,e,k0,k1,k2,k3⟩:=hh;⟨b0,b1,b2,b3,e,k0.grow g,k1.grow g,k2.grow g,k3.grow g⟩
 |.turns (x::l) r,hh=>let ⟨b0,b1,b2,b3,b4,e,k0,k1,k2,k3,k4⟩:=hh;⟨b0,b1,b2,b3,b4,e,k0.grow g,k1.grow g,k2.grow g,k3.grow g,k4.grow g⟩
 |.cZ,hh=>let ⟨b0,b1,b2,e,k0,k1,k2⟩:=hh;⟨b0,b1,b2,e,k0.grow g,k1.grow g,k2.grow g⟩
 |.abort e aI,hh=>let ⟨b0,b1,b2,b3,b4,e,k0,k1,k2,k3,k4⟩:=hh;⟨b0,b1,b2,b3,b4,e,k0.grow g,k1.grow g,k2.grow g,k3.grow g,k4.grow g⟩
end
structure bU (A A':az) (s:Nat):Prop where
 bf:A'.Gz=A.Gz
 ba:A'.ba=A.ba
 bp:A'.bp=A.bp
 bt:A'.bt=A.bt
 bm:A'.bm=A.bm
 bc:A'.bc=A.bc
 bE:A'.bE=A.bE
 bH:A'.bH=A.bH
 eP:A'.eP=A.eP
 mp:A'.mp=A.mp
 mt:A'.mt=A.mt
 bx:∀ k,k≠s->A'.bx k=A.bx k
 aX:∀ k,k≠s->A'.aX k=A.aX k
theorem bU.V {A A':az} {s:Nat} (h:bU A A' s):A'.V=A.V:=Ar h.bf
theorem bU.refl (A:az) (s:Nat):bU A A s:=⟨rfl,rfl,rfl,rfl,rfl,rfl,rfl,rfl,rfl,rfl,rfl,fun _ _=>rfl,fun _ _=>rfl⟩
theorem bU.trans {A B C:az} {s:Nat} (h:bU A B s) (k:bU B C s):bU A C s:=
 ⟨k.bf.trans h.bf,k.ba.trans h.ba,k.bp.trans h.bp,k.bt.trans h.bt,k.bm.trans h.bm,k.bc.trans h.bc,k.bE.trans h.bE,k.bH.trans h.bH,k.eP.trans h.eP,k.mp.trans h.mp,k.mt.trans h.mt,fun j hj=>(k.bx j hj).trans (h.bx j hj),fun j hj=>(k.aX j hj).trans (h.aX j hj)⟩
def lF (A:az) (w:World) (s:Nat) (r:St×Option K):Ending->World->Prop:=fun e E=>
 ∃ A' v,e=.returned v∧aF A' r.1 E∧Grow A.L w A'.L E∧bU A A' s∧(match r.2 with|some k=>nY (kp A' r.1 s) A'.L E v k|none=>v=.nilFunc)
def bG (A:az) (w:World) (s:Nat) (r:St×K):Ending->World->Prop:=fun e E=>
 ∃ A' v,e=.returned v∧aF A' r.1 E∧Grow A.L w A'.L E∧bU A A' s∧nY (kp A' r.1 s) A'.L E v r.2
structure Kp (A:az) (w E:World):Prop where
 fix:∀ b o v,A.L b=none->w.cell? (J b o)=some v->E.cell? (J b o)=some v
 ea:E.cell? (J A.V 2)=some (ptr A.ba)
theorem Kp.of {A A':az} {bF:St} {w E:World} {s:Nat} (g:Grow A.L w A'.L E) (h:aF A' bF E) (st:bU A A' s):Kp A w E:=
 ⟨fun b o v hl hc=>(World.cell?_of_block (w:=w) (a:=(J b o)) (g.block b (World.block_lt_of_cell? w _ hc) hl)).trans hc,by have:=h.bT 2 (v:=ptr A'.ba) rfl;rw[st.V,st.ba] at this;exact this⟩
theorem Fix.box {L:eH} {w:World} {b:Nat} {v:Value} {T:TypeId} (h:Fix L w b (.cells #[v] T)):aP L w b v:=⟨T,h⟩
theorem kH (w:World) (o:Obj):(w.alloc o).heap.size=w.heap.size+1:=by simp
theorem fA {L:eH} {w:World} {b:Nat} (hf:∀ k,w.heap.size<=k->L k=none) (o:Obj) (Z:b=w.heap.size):Fix L (w.alloc o) b o:=by subst Z;exact Fix.alloc (hf _ (zr _))
theorem dz (hR:aF A D w) (c0:Array Value) (T0:TypeId):aF A D (w.alloc (.cells c0 T0))∧Grow A.L w A.L (w.alloc (.cells c0 T0))∧Fix A.L (w.alloc (.cells c0 T0)) (w.heap.size) (.cells c0 T0):=by
 exact⟨hR.alloc _,Grow.alloc _ _ _,fA hR.mem.fresh _ rfl⟩
theorem jJ (hR:aF A D w) (c0:Array Value) (T0:TypeId) (c1:Array Value) (T1:TypeId):aF A D ((w.alloc (.cells c0 T0)).alloc (.cells c1 T1))∧Grow A.L w A.L ((w.alloc (.cells c0 T0)).alloc (.cells c1 T1))∧Fix A.L ((w.alloc (.cells c0 T0)).alloc (.cells c1 T1)) (w.heap.size) (.cells c0 T0)∧Fix A.L ((w.alloc (.cells c0 T0)).alloc (.cells c1 T1)) (w.heap.size+1) (.cells c1 T1):=by
 obtain⟨r,g,f0⟩:=dz hR c0 T0;have k:=Grow.alloc A.L (w.alloc (.cells c0 T0)) (.cells c1 T1);exact⟨r.alloc _,g.trans k,f0.grow k,fA r.mem.fresh _ (by simp)⟩
theorem jl (hR:aF A D w) (c0:Array Value) (T0:TypeId) (c1:Array Value) (T1:TypeId) (c2:Array Value) (T2:TypeId):aF A D (((w.alloc (.cells c0 T0)).alloc (.cells c1 T1)).alloc (.cells c2 T2))∧Grow A.L w A.L (((w.alloc (.cells c0 T0)).alloc (.cells c1 T1)).alloc (.cells c2 T2))∧Fix A.L (((w.alloc (.cells c0 T0)).alloc (.cells c1 T1)).alloc (.cells c2 T2)) (w.heap.size) (.cells c0 T0)∧Fix A.L (((w.alloc (.cells c0 T0)).alloc (.cells c1 T1)).alloc (.cells c2 T2)) (w.heap.size+1) (.cells c1 T1)∧Fix A.L (((w.alloc (.cells c0 T0)).alloc (.cells c1 T1)).alloc (.cells c2 T2)) (w.heap.size+2) (.cells c2 T2):=by
 obtain⟨r,g,f0,f1⟩:=jJ hR c0 T0 c1 T1;have k:=Grow.alloc A.L ((w.alloc (.cells c0 T0)).alloc (.cells c1 T1)) (.cells c2 T2);exact⟨r.alloc _,g.trans k,f0.grow k,f1.grow k,fA r.mem.fresh _ (by simp)⟩
theorem jK (hR:aF A D w) (c0:Array Value) (T0:TypeId) (c1:Array Value) (T1:TypeId) (c2:Array Value) (T2:TypeId) (c3:Array Value) (T3:TypeId):aF A D ((((w.alloc (.cells c0 T0)).alloc (.cells c1 T1)).alloc (.cells c2 T2)).alloc (.cells c3 T3))∧Grow A.L w A.L ((((w.alloc (.cells c0 T0)).alloc (.cells c1 T1)).alloc (.cells c2 T2)).alloc (.cells c3 T3))∧Fix A.L ((((w.alloc (.cells c0 T0)).alloc (.cells c1 T1)).alloc (.cells c2 T2)).alloc (.cells c3 T3)) (w.heap.size) (.cells c0 T0)∧Fix A.L ((((w.alloc (.cells c0 T0)).alloc (.cells c1 T1)).alloc (.cells c2 T2)).alloc (.cells c3 T3)) (w.heap.size+1) (.cells c1 T1)∧Fix A.L ((((w.alloc (.cells c0 T0)).alloc (.cells c1 T1)).alloc (.cells c2 T2)).alloc (.cells c3 T3)) (w.heap.size+2) (.cells c2 T2)∧Fix A.L ((((w.alloc (.cells c0 T0)).alloc (.cells c1 T1)).alloc (.cells c2 T2)).alloc (.cells c3 T3)) (w.heap.size+3) (.cells c3 T3):=by
 obtain⟨r,g,f0,f1,f2⟩:=jl hR c0 T0 c1 T1 c2 T2;have k:=Grow.alloc A.L (((w.alloc (.cells c0 T0)).alloc (.cells c1 T1)).alloc (.cells c2 T2)) (.cells c3 T3);exact⟨r.alloc _,g.trans k,f0.grow k,f1.grow k,f2.grow k,fA r.mem.fresh _ (by simp)⟩
theorem jL (hR:aF A D w) (c0:Array Value) (T0:TypeId) (c1:Array Value) (T1:TypeId) (c2:Array Value) (T2:TypeId) (c3:Array Value) (T3:TypeId) (c4:Array Value) (T4:TypeId):aF A D (((((w.alloc (.cells c0 T0)).alloc (.cells c1 T1)).alloc (.cells c2 T2)).alloc (.cells c3 T3)).alloc (.cells c4 T4))∧Grow A.L w A.L (((((w.alloc (.cells c0 T0)).alloc (.cells c1 T1)).alloc (.cells c2 T2)).alloc (.cells c3 T3)).alloc (.cells c4 T4))∧Fix A.L (((((w.alloc (.cells c0 T0)).alloc (.cells c1 T1)).alloc (.cells c2 T2)).alloc (.cells c3 T3)).alloc (.cells c4 T4)) (w.heap.size) (.cells c0 T0)∧Fix A.L (((((w.alloc (.cells c0 T0)).alloc (.cells c1 T1)).alloc (.cells c2 T2)).alloc (.cells c3 T3)).alloc (.cells c4 T4)) (w.heap.size+1) (.cells c1 T1)∧Fix A.L (((((w.alloc (.cells c0 T0)).alloc (.cells c1 T1)).alloc (.cells c2 T2)).alloc (.cells c3 T3)).alloc (.cells c4 T4)) (w.heap.size+2) (.cells c2 T2)∧Fix A.L (((((w.alloc (.cells c0 T0)).alloc (.cells c1 T1)).alloc (.cells c2 T2)).alloc (.cells c3 T3)).alloc (.cells c4 T4)) (w.heap.size+3) (.cells c3 T3)∧Fix A.L (((((w.alloc (.cells c0 T0)).alloc (.cells c1 T1)).alloc (.cells c2 T2)).alloc (.cells c3 T3)).alloc (.cells c4 T4)) (w.heap.size+4) (.cells c4 T4):=by
 obtain⟨r,g,f0,f1,f2,f3⟩:=jK hR c0 T0 c1 T1 c2 T2 c3 T3;have k:=Grow.alloc A.L ((((w.alloc (.cells c0 T0)).alloc (.cells c1 T1)).alloc (.cells c2 T2)).alloc (.cells c3 T3)) (.cells c4 T4);exact⟨r.alloc _,g.trans k,f0.grow k,f1.grow k,f2.grow k,f3.grow k,fA r.mem.fresh _ (by simp)⟩
theorem GD (hR:aF A D w) (c0:Array Value) (T0:TypeId) (c1:Array Value) (T1:TypeId) (c2:Array Value) (T2:TypeId) (c3:Array Value) (T3:TypeId) (c4:Array Value) (T4:TypeId) (c5:Array Value) (T5:TypeId):aF A D ((((((w.alloc (.cells c0 T0)).alloc (.cells c1 T1)).alloc (.cells c2 T2)).alloc (.cells c3 T3)).alloc (.cells c4 T4)).alloc (.cells c5 T5))∧Grow A.L w A.L ((((((w.alloc (.cells c0 T0)).alloc (.cells c1 T1)).alloc (.cells c2 T2)).alloc (.cells c3 T3)).alloc (.cells c4 T4)).alloc (.cells c5 T5))∧Fix A.L ((((((w.alloc (.cells c0 T0)).alloc (.cells c1 T1)).alloc (.cells c2 T2)).alloc (.cells c3 T3)).alloc (.cells c4 T4)).alloc (.cells c5 T5)) (w.heap.size) (.cells c0 T0)∧Fix A.L ((((((w.alloc (.cells c0 T0)).alloc (.cells c1 T1)).alloc (.cells c2 T2)).alloc (.cells c3 T3)).alloc (.cells c4 T4)).alloc (.cells c5 T5)) (w.heap.size+1) (.cells c1 T1)∧Fix A.L ((((((w.alloc (.cells c0 T0)).alloc (.cells c1 T1)).alloc (.cells c2 T2)).alloc (.cells c3 T3)).alloc (.cells c4 T4)).alloc (.cells c5 T5)) (w.heap.size+2) (.cells c2 T2)∧Fix A.L ((((((w.alloc (.cells c0 T0)).alloc (.cells c1 T1)).alloc (.cells c2 T2)).alloc (.cells c3 T3)).alloc (.cells c4 T4)).alloc (.cells c5 T5)) (w.heap.size+3) (.cells c3 T3)∧Fix A.L ((((((w.alloc (.cells c0 T0)).alloc (.cells c1 T1)).alloc (.cells c2 T2)).alloc (.cells c3 T3)).alloc (.cells c4 T4)).alloc (.cells c5 T5)) (w.heap.size+4) (.cells c4 T4)∧Fix A.L ((((((w.alloc (.cells c0 T0)).alloc (.cells c1 T1)).alloc (.cells c2 T2)).alloc (.cells c3 T3)).alloc (.cells c4 T4)).alloc (.cells c5 T5)) (w.heap.size+5) (.cells c5 T5):=by
 obtain⟨r,g,f0,f1,f2,f3,f4⟩:=jL hR c0 T0 c1 T1 c2 T2 c3 T3 c4 T4;have k:=Grow.alloc A.L (((((w.alloc (.cells c0 T0)).alloc (.cells c1 T1)).alloc (.cells c2 T2)).alloc (.cells c3 T3)).alloc (.cells c4 T4)) (.cells c5 T5);exact⟨r.alloc _,g.trans k,f0.grow k,f1.grow k,f2.grow k,f3.grow k,f4.grow k,fA r.mem.fresh _ (by simp)⟩
theorem mR (hR:aF A D w) (s:Nat) (bh:Nat) (h:dR) (hh:dS (kp A D s) A.L w bh h) (G:Nat):
 zk 201 #[R bh 0,zu G] w (bG A w s (D,.older h G)):=by
 have ae:=U (jJ hR #[R bh 0] 246 #[zu G] 25);have HH:=U hh;clear hh;clear hR;go_enter Tryz.func201,Tryz.ntmps201;go_wp2;go_ret;obtain⟨r1,r2,f0,f1⟩:=ae.out;exact⟨A,_,rfl,r1,r2,bU.refl _ _,_,_,rfl,⟨_,f0.box,HH.out.grow r2⟩,f1.box⟩
theorem tQ (hR:aF A D w) (s:Nat) (bh:Nat) (h:dR) (hh:dS (kp A D s) A.L w bh h) (G:Nat) (mb:Nat):
 zk 200 #[R bh 0,zu G,I mb] w (bG A w s (D,.ended h G mb)):=by
 have ae:=U (jl hR #[R bh 0] 246 #[zu G] 25 #[I mb] 3);have HH:=U hh;clear hh;clear hR;go_enter Tryz.func200,Tryz.ntmps200;go_wp2;go_ret;obtain⟨r1,r2,f0,f1,f2⟩:=ae.out;exact⟨A,_,rfl,r1,r2,bU.refl _ _,_,_,_,rfl,⟨_,f0.box,HH.out.grow r2⟩,f1.box,f2.box⟩
theorem Il (hR:aF A D w) (s:Nat) (bh:Nat) (h:dR) (hh:dS (kp A D s) A.L w bh h) (G:Nat) (mb:Nat) (id:Nat):
 zk 212 #[R bh 0,zu G,I mb,I id] w (bG A w s (D,.ik h G mb id)):=by
 have ae:=U (jK hR #[R bh 0] 246 #[zu G] 25 #[I mb] 3 #[I id] 3);have HH:=U hh;clear hh;clear hR;go_enter Tryz.func212,Tryz.ntmps212;go_wp2;go_ret;obtain⟨r1,r2,f0,f1,f2,f3⟩:=ae.out;exact⟨A,_,rfl,r1,r2,bU.refl _ _,_,_,_,_,rfl,⟨_,f0.box,HH.out.grow r2⟩,f3.box,f1.box,f2.box⟩
theorem Cm (hR:aF A D w) (s:Nat):
 zk 96 #[R A.V 0,R (A.bt s) 0,R (A.bc s) 0] w (bG A w s (D,.draw)):=by
 have ae:=U (jl hR #[R A.V 0] 32 #[R (A.bt s) 0] 100 #[R (A.bc s) 0] 105);clear hR;go_enter Tryz.func96,Tryz.ntmps96;go_wp2;go_ret;obtain⟨r1,r2,f0,f1,f2⟩:=ae.out;exact⟨A,_,rfl,r1,r2,bU.refl _ _,_,_,_,rfl,f0.box,f1.box,f2.box⟩
theorem EM (hR:aF A D w) (s:Nat):
 zk 163 #[R A.V 0,R (A.bt s) 0,R (A.bc s) 0] w (bG A w s (D,.cZ)):=by
 have ae:=U (jl hR #[R A.V 0] 32 #[R (A.bt s) 0] 100 #[R (A.bc s) 0] 105);clear hR;go_enter Tryz.func163,Tryz.ntmps163;go_wp2;go_ret;obtain⟨r1,r2,f0,f1,f2⟩:=ae.out;exact⟨A,_,rfl,r1,r2,bU.refl _ _,_,_,_,rfl,f0.box,f1.box,f2.box⟩
theorem jM (hR:aF A D w) (s:Nat) (er:Nat) (aI:Nat):
 zk 97 #[R A.V 0,R (A.bt s) 0,R (A.bc s) 0,I er,I aI] w (bG A w s (D,.abort er aI)):=by
 have ae:=U (jL hR #[R A.V 0] 32 #[R (A.bt s) 0] 100 #[R (A.bc s) 0] 105 #[I er] 29 #[I aI] 3);clear hR;go_enter Tryz.func97,Tryz.ntmps97;go_wp2;go_ret;obtain⟨r1,r2,f0,f1,f2,f3,f4⟩:=ae.out;exact⟨A,_,rfl,r1,r2,bU.refl _ _,_,_,_,_,_,rfl,f0.box,f1.box,f4.box,f2.box,f3.box⟩
theorem yM (hR:aF A D w) (s:Nat) (G:Nat):
 zk 131 #[R A.V 0,R (A.bt s) 0,R (A.bc s) 0,zu G] w (bG A w s (D,.fresh G)):=by
 have ae:=U (jK hR #[R A.V 0] 32 #[R (A.bt s) 0] 100 #[R (A.bc s) 0] 105 #[zu G] 25);clear hR;go_enter Tryz.func131,Tryz.ntmps131;go_wp2;go_ret;obtain⟨r1,r2,f0,f1,f2,f3⟩:=ae.out;exact⟨A,_,rfl,r1,r2,bU.refl _ _,_,_,_,_,rfl,f0.box,f2.box,f1.box,f3.box⟩
theorem GH (hR:aF A D w) (s:Nat) (G:Nat):
 zk 132 #[R A.V 0,R (A.bt s) 0,R (A.bc s) 0,zu G] w (bG A w s (D,.own G)):=by
 have ae:=U (jK hR #[R A.V 0] 32 #[R (A.bt s) 0] 100 #[R (A.bc s) 0] 105 #[zu G] 25);clear hR;go_enter Tryz.func132,Tryz.ntmps132;go_wp2;go_ret;obtain⟨r1,r2,f0,f1,f2,f3⟩:=ae.out;exact⟨A,_,rfl,r1,r2,bU.refl _ _,_,_,_,_,rfl,f0.box,f3.box,f1.box,f2.box⟩
theorem yN (hR:aF A D w) (s:Nat) (G:Nat) (x:Nat):
 zk 156 #[R A.V 0,R (A.bt s) 0,R (A.bc s) 0,zu G,zu x] w (bG A w s (D,.claim G x)):=by
 have ae:=U (jL hR #[R A.V 0] 32 #[R (A.bt s) 0] 100 #[R (A.bc s) 0] 105 #[zu G] 25 #[zu x] 25);clear hR;go_enter Tryz.func156,Tryz.ntmps156;go_wp2;go_ret;obtain⟨r1,r2,f0,f1,f2,f3,f4⟩:=ae.out;exact⟨A,_,rfl,r1,r2,bU.refl _ _,_,_,_,_,_,rfl,f0.box,f3.box,f4.box,f1.box,f2.box⟩
theorem JZ (hR:aF A D w) (s:Nat) (G:Nat) (head:Nat):
 zk 170 #[R A.V 0,R (A.bt s) 0,R (A.bc s) 0,zu G,zu head] w (bG A w s (D,.push G head)):=by
 have ae:=U (jL hR #[R A.V 0] 32 #[R (A.bt s) 0] 100 #[R (A.bc s) 0] 105 #[zu G] 25 #[zu head] 25);clear hR;go_enter Tryz.func170,Tryz.ntmps170;go_wp2;go_ret;obtain⟨r1,r2,f0,f1,f2,f3,f4⟩:=ae.out;exact⟨A,_,rfl,r1,r2,bU.refl _ _,_,_,_,_,_,rfl,f0.box,f3.box,f4.box,f2.box,f1.box⟩
theorem J2 (hR:aF A D w) (s:Nat) (r:mo) (vp:Value) (hp:(vp=A.aX s∧r.aL=(D.c s).r.aL)∨(vp=.slice none 0 0∧r.aL=[])):
 zk 113 #[R A.V 0,R (A.bc s) 0,.agg #[I r.e,I r.value,vp,I r.over,I r.aI]] w (bG A w s (D,.fin r)):=by
 have ae:=U (jl hR #[R A.V 0] 32 #[R (A.bc s) 0] 105 #[I r.e,I r.value,vp,I r.over,I r.aI] 46);have HP:=U hp;clear hR hp;go_enter Tryz.func113,Tryz.ntmps113;go_wp2;go_ret;obtain⟨r1,r2,f0,f1,f2⟩:=ae.out;exact⟨A,_,rfl,r1,r2,bU.refl _ _,_,_,_,rfl,f0.box,f1.box,_,_,f2,HP.out⟩
theorem jm (hR:aF A D w) (s:Nat) (r:mo) (re rv ro rr:Int) (vp:Value) (hcs:Ck r vp=[I re,I rv,vp,I ro,I rr]) (hp:(vp=A.aX s∧r.aL=(D.c s).r.aL)∨(vp=.slice none 0 0∧r.aL=[])):
 zk 113 #[R A.V 0,R (A.bc s) 0,.agg #[I re,I rv,vp,I ro,I rr]] w (bG A w s (D,.fin r)):=by
 have h:=J2 hR s r vp hp;simp only[Ck,List.cons.injEq,Value.int.injEq,true_and,and_true] at hcs;obtain⟨e1,e2,e3,e4⟩:=hcs;rw[e1,e2,e3,e4] at h;exact h
def Does (A:az) (w:World) (s:Nat) (bF:St) (v:Value):Ending->World->Prop:=fun e E=>
 e=.returned v∧∃ A',aF A' bF E∧Grow A.L w A'.L E∧bU A A' s∧A'.bx=A.bx∧A'.aX=A.aX
theorem Au {A A':az} {D bF:St} {s:Nat} (st:bU A A' s) (h1:A'.bx=A.bx) (h2:A'.aX=A.aX) (h3:(bF.c s).op.F=(D.c s).op.F) (h4:(bF.c s).r.aL=(D.c s).r.aL):kp A' bF s=kp A D s:=by
 unfold kp;rw[st.V,st.bt,st.bc,h1,h2,h3,h4]
theorem info_parts {P:Program} {t:TypeId} {z:Value} {s b:Nat} (h:(P.info? t).map (fun i=>(i.zero,i.size,i.bytes))=some (some z,s,b)):∃ i,P.info? t=some i∧i.zero=some z∧i.size=s∧i.bytes=b:=by
 cases hi:P.info? t with
 |none=>rw[hi] at h;cases h
 |some i=>
  rw[hi] at h;simp only[Option.map_some,Option.some.injEq,jw] at h;exact⟨i,rfl,h.1,h.2.1,h.2.2⟩
theorem qf {l:Nat} (h1:1<=l % 131072):((ag l:Nat):Int)=(l:Int) % 131072 - 1:=by unfold ag;omega
theorem l9 (hR:aF A D w) (l:Nat) (h1:1<=l % 131072) (h2:l % 131072<=D.aG) (hl:l<18446744073709551616):
 zk 87 #[R A.V 0,zu l] w fun e E=>e=.returned (.pointer (some ⟨A.bv,2*ag l,none⟩))∧w=E:=by
 have c4:w.cell? (J A.V 4)=some (.slice (some (J A.bv 0)) D.aG D.aG):=hR.bT 4 rfl;have hu:=Word.oW (l:Int) (by omega) (by omega) w;rw[<-qf h1] at hu;have hi:ag l<D.aG:=by unfold ag;omega
 have hsl:=hR.sl;generalize ag l=i at*;generalize hn:D.aG=n at*;have b1:(i:Int)<(n:Int):=by omega
 have b0:(0:Int)<=(i:Int):=by omega
 have HU:=U hu;clear hR h1 h2 hl hi hn hu;go_enter Tryz.func87,Tryz.ntmps87;go_wp2_with (go_at_call 107;refine HU.out.mono ?_;rintro e E ⟨rfl,rfl⟩);go_ret;refine⟨?_,rfl⟩
 first|rfl|(simp[Nat.mul_comm];done)
theorem kM.form {p:KP} {L:eH} {w:World} {v:Value} {F:Nat} {t:P6} (h:kM p L w v F t):∃ f c,v=.func (.func f) #[] c:=by
 cases t
 . obtain⟨b0,b1,b2,b3,e,_⟩:=h;exact⟨_,_,e⟩
 . obtain⟨b0,b1,b2,b3,b4,e,_⟩:=h;exact⟨_,_,e⟩
 . obtain⟨b0,b1,b2,b3,e,_⟩:=h;exact⟨_,_,e⟩
 . obtain⟨b0,b1,b2,b3,b4,e,_⟩:=h;exact⟨_,_,e⟩
theorem sH (hR:aF A D w) (s F at_:Nat) (vt:Value) (thn:P6) (hv:kM (kp A D s) A.L w vt F thn):
 zk 114 #[R A.V 0,R (A.bt s) 0,I F,zu at_,vt] w (bG A w s (D,.start ⟨F,at_,thn⟩)):=by
 obtain⟨fv,cv,rfl⟩:=hv.form;have ae:=U (dz hR #[R A.V 0,R (A.bt s) 0,I F,zu at_,.func (.func fv) #[] cv] 248);have HV:=U hv;clear hR hv;go_enter Tryz.func114,Tryz.ntmps114;go_wp2;go_ret;obtain⟨r1,r2,f0⟩:=ae.out;exact⟨A,_,rfl,r1,r2,bU.refl _ _,_,rfl,_,_,f0,HV.out.grow r2⟩
theorem R7:(Tryz.prog.info? 250).map (fun i=>(i.zero,i.size,i.bytes))=some (some (.agg #[I 0,zu 0,.bool false]),3,24):=by kernel_rfl
theorem mW (hR:aF A D w) (s:Nat) (t:bL) (ht:D.ai.getD s none=some t) (F G:Nat) (got:Bool) (hn:t.reads.length<1000000):
 zk 116 #[R (A.bt s) 0,I F,zu G,.bool got] w (Does A w s (D.read s F G got) (.tuple #[])):=by
 have c8:w.cell? (J (A.bt s) 8)=some (A.fO s):=hR.fI ht 8 rfl;have z8:=hR.vP ht 8;have hA:=hR.alloc (.cells #[I F,zu G,.bool got] 250);have aY:=hA.mem.all (.reads s);rw[mem_reads ht] at aY;have ho:=aY.1;obtain⟨av,jB,hv,_⟩:=Ow.bO ho;have hst:D.read s F G got=D.bM s {t with reads:=t.reads++[(F,G,got)]}:=by unfold St.read;rw[cK ht]
 rw[hst];have e2:kC (t.reads++[(F,G,got)])=kC t.reads++[I F,zu G,.bool got]:=by simp[kC]
 have hlen:(t.reads++[(F,G,got)]).length=t.reads.length+1:=by simp
 have UA:0<=(w.alloc (.cells #[I F,zu G,.bool got] 250)).heap.size:=zz _;rw[hv] at c8;have HA:=U (zA hA (Grow.alloc A.L w (.cells #[I F,zu G,.bool got] 250)));have HT:=U ht;have HV:=U hv;have HE:=U (zA e2 hlen);rw[hv] at ho;clear hR hA ht aY hst hv e2 hlen;generalize hrl:t.reads.length=n at*;have HN:=U hrl;clear hrl;obtain⟨i0,hi,hz0,hz1,hz2⟩:=info_parts R7;go_enter Tryz.func116,Tryz.ntmps116;go_wp2_with (at_builtin;refine Ow.dZ _ rfl (.tmp 12) (.tmp 17) 117 rfl 0 _ i0 _ 3 24 Tryz.underlying117 hi hz0 hz1 hz2 rfl (by decide) (.slice av n jB) n (kC t.reads) rfl ho (J w.heap.size 0) 1 1 (by omega) [I F,zu G,.bool got] rfl rfl ?c1 (by intro u hu;simp at hu;rcases hu with rfl|rfl|rfl<;>rfl) (by unfold maxLen;omega) (by omega) UA ?_)
 case c1=>exact Ow.iC w [I F,zu G,.bool got] _ _ rfl
 intro v' w2 hown2 hg2 WU;obtain⟨hA,hG⟩:=HA.out;obtain⟨e2,hlen⟩:=HE.out;obtain⟨a4,cap4,hv4,_⟩:=Ow.bO hown2;have hrow:=hA.MZ HT.out (t.reads++[(F,G,got)]) v' (by rw[HV.out];exact hg2) (by rw[e2,hlen];exact hown2) (by rw[HV.out,kH];exact WU);have HO:=U (zA hrow.1 hrow.2.1);have ZO:=U hv4;obtain⟨_,_,XQ,z82⟩:=hrow;rw[HV.out] at XQ;clear hA hG e2 hlen hown2 hg2 WU ho c8 z8 hn UA;subst hv4;go_wp2_with fail
 go_end0
 obtain⟨r1,r2⟩:=HO.out;exact⟨rfl,_,r1,HA.out.2.trans r2,⟨rfl,rfl,rfl,rfl,rfl,rfl,rfl,rfl,rfl,rfl,rfl,fun _ _=>rfl,fun _ _=>rfl⟩,rfl,rfl⟩
theorem R8:(Tryz.prog.info? 62).map (fun i=>(i.zero,i.size,i.bytes))=some (some (.agg #[I 0,I 0,zu 0,I 0,I 0,I 0,I 0,I 0,I 0,.slice none 0 0,I 0,I 0]),12,112):=by kernel_rfl
theorem rq {w E:World} {row:Option Nat} (h:w.drew.grownBy E row):w.grownBy E row:=⟨h.os,h.tape,h.output,h.size,h.block⟩
theorem mU (hR:aF A D w) (s:Nat) (e:Ev) (k t n ok oy oh ov re rv ro rr:Int) (a:Option Addr) (pn pc:Nat) (hcs:pU e (.slice a pn pc)=[Value.int .i64 k,I t,zu n,I ok,I oy,I oh,I ov,I re,I rv,.slice a pn pc,I ro,I rr])
 (hp:lC A.L w (.slice a pn pc) (bQ e.res.aL)) (hn:D.aQ.length<1000000):
 zk 50 #[R A.V 0,.agg #[Value.int .i64 k,I t,zu n,I ok,I oy,I oh,I ov,I re,I rv,.slice a pn pc,I ro,I rr]] w (Does A w s (D.event e) (.tuple #[])):=by
 obtain⟨h1,g1,_⟩:=dz hR #[Value.int .i64 k,I t,zu n,I ok,I oy,I oh,I ov,I re,I rv,.slice a pn pc,I ro,I rr] 62;have c24:(w.alloc (.cells #[Value.int .i64 k,I t,zu n,I ok,I oy,I oh,I ov,I re,I rv,.slice a pn pc,I ro,I rr] 62)).cell? (J A.V 24)=some A.jP:=h1.bT 24 rfl;obtain⟨h2,g2,_,_⟩:=jJ hR #[Value.int .i64 k,I t,zu n,I ok,I oy,I oh,I ov,I re,I rv,.slice a pn pc,I ro,I rr] 62 #[Value.int .i64 k,I t,zu n,I ok,I oy,I oh,I ov,I re,I rv,.slice a pn pc,I ro,I rr] 62;have hd:aF A D ((w.alloc (.cells #[Value.int .i64 k,I t,zu n,I ok,I oy,I oh,I ov,I re,I rv,.slice a pn pc,I ro,I rr] 62)).alloc (.cells #[Value.int .i64 k,I t,zu n,I ok,I oy,I oh,I ov,I re,I rv,.slice a pn pc,I ro,I rr] 62)):=h2;have Nj:((w.alloc (.cells #[Value.int .i64 k,I t,zu n,I ok,I oy,I oh,I ov,I re,I rv,.slice a pn pc,I ro,I rr] 62)).alloc (.cells #[Value.int .i64 k,I t,zu n,I ok,I oy,I oh,I ov,I re,I rv,.slice a pn pc,I ro,I rr] 62)).cell? (J A.V 24)=some A.jP:=h2.bT 24 rfl;have aY:=(hd.mem.all .aQ).1;obtain⟨av,jB,hv,_⟩:=Ow.bO aY;rw[hv] at c24 Nj aY;have ae:∀ v' w2,w2.ownsRow 0 62 12 v' (D.aQ.length+1) (A.gV++[Value.int .i64 k,I t,zu n,I ok,I oy,I oh,I ov,I re,I rv,.slice a pn pc,I ro,I rr])->((w.alloc (.cells #[Value.int .i64 k,I t,zu n,I ok,I oy,I oh,I ov,I re,I rv,.slice a pn pc,I ro,I rr] 62)).alloc (.cells #[Value.int .i64 k,I t,zu n,I ok,I oy,I oh,I ov,I re,I rv,.slice a pn pc,I ro,I rr] 62)).grownBy w2 A.jP.ownBlock->(v'.ownBlock=A.jP.ownBlock∨∀ g,v'.ownBlock=some g->((w.alloc (.cells #[Value.int .i64 k,I t,zu n,I ok,I oy,I oh,I ov,I re,I rv,.slice a pn pc,I ro,I rr] 62)).alloc (.cells #[Value.int .i64 k,I t,zu n,I ok,I oy,I oh,I ov,I re,I rv,.slice a pn pc,I ro,I rr] 62)).heap.size<=g)->
  (∃ A',aF A' (D.event e) (w2.setCell (J A.V 24) v')∧Grow A.L w A'.L (w2.setCell (J A.V 24) v')∧bU A A' s∧A'.bx=A.bx∧A'.aX=A.aX)∧w2.cell? (J A.V 24)=some A.jP∧w2.frozen? (J A.V 24)=false:=by
  intro v' w2 q1 q2 q3;obtain⟨r1,r2,r3,r4⟩:=hd.M3 e _ v' (hp.grow g2) q2 (by rw[hcs];exact q1) q3;exact⟨⟨_,r1,g2.trans r2,⟨rfl,rfl,rfl,rfl,rfl,rfl,rfl,rfl,rfl,rfl,rfl,fun _ _=>rfl,fun _ _=>rfl⟩,rfl,rfl⟩,r3,r4⟩
 have hos:=kH (w.alloc (.cells #[Value.int .i64 k,I t,zu n,I ok,I oy,I oh,I ov,I re,I rv,.slice a pn pc,I ro,I rr] 62)) (.cells #[Value.int .i64 k,I t,zu n,I ok,I oy,I oh,I ov,I re,I rv,.slice a pn pc,I ro,I rr] 62);rw[kH] at hos;rw[hv] at ae;have HF:=U ae;have HO:=U aY;have HS:=U hos;obtain⟨i0,hi,hz0,hz1,hz2⟩:=info_parts R8;clear hR h1 g1 h2 g2 hd hv hp hcs ae aY hos;generalize A.gV=xs at*;generalize D.aQ.length=len at*;go_enter Tryz.func50,Tryz.ntmps50;go_wp2_with fail
 go_region_law (first|(refine Ow.jH _ (.tmp 8) (.tmp 10) 52 rfl 0 _ i0 _ 12 112 Tryz.underlying52 hi hz0 hz1 hz2 rfl (by decide) (.slice av len jB) len xs rfl HO.out ⟨w.heap.size+1,0,none⟩ 1 1 (by omega) [Value.int .i64 k,I t,zu n,I ok,I oy,I oh,I ov,I re,I rv,.slice a pn pc,I ro,I rr] rfl rfl (by intro j u hu;exact Ow.iC (w.alloc (.cells #[Value.int .i64 k,I t,zu n,I ok,I oy,I oh,I ov,I re,I rv,.slice a pn pc,I ro,I rr] 62)) [Value.int .i64 k,I t,zu n,I ok,I oy,I oh,I ov,I re,I rv,.slice a pn pc,I ro,I rr] _ _ (kH _ _).symm j u hu) (by intro u hu;simp at hu;rcases hu with rfl|rfl|rfl|rfl|rfl|rfl|rfl|rfl|rfl|rfl|rfl|rfl<;>rfl) (by unfold maxLen;omega) (by omega) (zz _) ?_;intro v' w2 q1 q2 q3;obtain⟨r1,r2,r3⟩:=HF.out v' w2 q1 (rq q2) q3;obtain⟨a4,cap4,rfl,_⟩:=Ow.bO q1;have R1:=U r1;clear r1 q1 q2 q3))
 all_goals (go_end0;exact⟨rfl,R1.out⟩)
theorem J3 {x:Nat} (h1:x<=1099511627776):rd x=(1,x):=aW h1
theorem Cn:rd 2305843009213693952=(3,0):=by decide
theorem qg {x:Nat} (h3:4611686018427387904<x∧x<=4611686018427453439):rd x=(2,x - 4611686018427387904):=by
 unfold rd tm ever nW;rw[bu (by omega),bu (by omega),aW (by omega)]
theorem GI {x:Nat} (h1:¬ x<=1099511627776) (h2:¬ x=2305843009213693952) (h3:¬ (4611686018427387904<x∧x<=4611686018427453439)):rd x=(0,0):=by
 unfold rd tm ever nW;rw[bu (by omega),bu (by omega),bu (by omega)]
theorem Av (x:Nat):Word.Uy (x:Int)=((rd x).1:Int)∧Word.Uz (x:Int)=((rd x).2:Int):=by
 unfold Word.Uy Word.Uz
 by_cases h1:x<=1099511627776
 . have i1:(x:Int)<=1099511627776:=by omega
   rw[J3 h1];simp only[aW i1];exact⟨rfl,trivial⟩
 . have i1:¬ (x:Int)<=1099511627776:=by omega
   by_cases h2:x=2305843009213693952
   . subst h2
     rw[Cn];exact⟨by decide,by decide⟩
   . have i2:¬ (x:Int)=2305843009213693952:=by omega
     by_cases h3:4611686018427387904<x∧x<=4611686018427453439
     . have i3:4611686018427387904<(x:Int)∧(x:Int)<=4611686018427453439:=by omega
       rw[qg h3];simp only[bu i1,bu i2,aW i3];exact⟨rfl,by omega⟩
     . have i3:¬ (4611686018427387904<(x:Int)∧(x:Int)<=4611686018427453439):=by omega
       rw[GI h1 h2 h3];simp only[bu i1,bu i2,bu i3];exact⟨rfl,rfl⟩
theorem vU (x:Nat) (hx:x<18446744073709551616):(rd x).1<=3∧((rd x).1=2->(rd x).2<=65535)∧(rd x).2<18446744073709551616:=by
 by_cases h1:x<=1099511627776
 . rw[J3 h1];exact⟨by simp only;omega,by simp only;omega,hx⟩
 . by_cases h2:x=2305843009213693952
   . subst h2;rw[Cn];exact⟨by decide,by decide,by decide⟩
   . by_cases h3:4611686018427387904<x∧x<=4611686018427453439
     . rw[qg h3];exact⟨by simp only;omega,by simp only;omega,by simp only;omega⟩
     . rw[GI h1 h2 h3];exact⟨by simp only;omega,by simp only;omega,by simp only;omega⟩
theorem ru (x:Nat) (hx:x<18446744073709551616) (w:World):zk 108 #[zu x] w fun e E=>e=.returned (.agg #[I ((rd x).1:Int),zu ((rd x).2:Int)])∧Below w.heap.size w E:=by
 have h:=Word.mW (x:Int) (by omega) (by omega) w;rw[(Av x).1,(Av x).2] at h;exact h
theorem Fix.cell {L:eH} {w:World} {b:Nat} {cs:Array Value} {T:TypeId} (h:Fix L w b (.cells cs T)) (i:Nat) {v:Value} (hv:cs[i]? =some v):w.cell? (J b i)=some v:=by rw[cell_of_row w b i _ _ _ h.2];exact hv
theorem Im (hR:aF A D w) (s:Nat) (t:bL) (ht:D.ai.getD s none=some t) (bh:Nat) (hu:dR) (hh:dS (kp A D s) A.L w bh hu) (G x:Nat) (hx:x<18446744073709551616):
 zk 183 #[R bh 0,zu G,zu x] w (bG A w s (D,D.kK s hu G x)):=by
 obtain⟨hk3,hk2,hnb⟩:=vU x hx;have hrd:=ru x hx;obtain⟨r1,g1,f0,f1⟩:=jJ hR #[R bh 0] 246 #[zu G] 25;have hid:(D.t s).id=t.id:=by rw[cK ht]
 unfold St.kK;rw[hid];generalize hK:(rd x).1=k at*;generalize hN:(rd x).2=n at*;have sJ:=hh.grow g1;have HR:=U (zA r1 g1);have HX:=U hrd;have HF:=U (zA f0 (zA f1 sJ));have HT:=U ht;clear r1 g1 f0 f1 sJ hh hR hrd ht hx hK hN hid
 by_cases k1:k=1
 . subst k1
   clear hk3 hk2
   by_cases hn:n<=hu.at_
   . rw[aW ⟨rfl,hn⟩]
     have d1:decide ((n:Int)<=(hu.at_:Int))=true:=by simpa using hn
     have d2:decide (n<=hu.at_)=true:=by simpa using hn
     clear hn hnb;go_enter Tryz.func183,Tryz.ntmps183;go_wp2_with (go_at_call 108;refine (HX.out _).mono ?_;rintro e w2 ⟨rfl,hq⟩);obtain⟨r1,g1⟩:=HR.out;obtain⟨f0,f1,sJ⟩:=HF.out;obtain⟨r3,g3,f2⟩:=dz (r1.below hq) #[I 1,zu n] 217;have gq:=(Grow.below (L:=A.L) hq).trans g3;have F0:=f0.grow gq;have F1:=f1.grow gq;have hh3:=sJ.grow gq;have c0:=F0.cell 0 rfl;have c1:=F1.cell 0 rfl;have s0:=f2.cell 0 rfl;have s1:=f2.cell 1 rfl;obtain⟨vt,Nk,fh,hth⟩:=hh3;have h0:(w2.alloc (.cells #[I 1,zu n] 217)).cell? (J bh 1)=zs (A.bt s) 0:=fh.cell 1 rfl;have h3:=fh.cell 3 (v:=zu hu.at_) rfl;have t0:(w2.alloc (.cells #[I 1,zu n] 217)).cell? (J (A.bt s) 0)=zt t.id:=r3.fI HT.out 0 rfl;have GG:=U (zA r3 (zA (g1.trans gq) (zA F0 (zA F1 (show dS (kp A D s) A.L _ bh hu from ⟨vt,Nk,fh,hth⟩)))));clear r1 g1 f0 f1 sJ r3 g3 gq F0 F1 f2 fh hth hq;generalize w2.heap.size=b2 at*;generalize w2.alloc (.cells #[I 1,zu n] 217)=w3 at*
     go_quiet (fail)
     go_wp2_with (go_at_call 200;refine (tQ (GG.out.1.drewN _) s bh hu (GG.out.2.2.2.2.grow (Grow.drewN _ _ _)) G 0).mono ?_;rintro e w4 ⟨A',v,rfl,q1,q2,q3,q4⟩);go_ret;exact⟨A',v,rfl,q1,(GG.out.2.1.trans (Grow.drewN _ _ _)).trans q2,q3,q4⟩
   . rw[bu (fun e=>hn e.2),aW (Or.inl (by omega))]
     have d1:decide ((n:Int)<=(hu.at_:Int))=false:=by simpa using hn
     have d2:decide (n<=hu.at_)=false:=by simpa using hn
     clear hn hnb;go_enter Tryz.func183,Tryz.ntmps183;go_wp2_with (go_at_call 108;refine (HX.out _).mono ?_;rintro e w2 ⟨rfl,hq⟩);obtain⟨r1,g1⟩:=HR.out;obtain⟨f0,f1,sJ⟩:=HF.out;obtain⟨r3,g3,f2⟩:=dz (r1.below hq) #[I 1,zu n] 217;have gq:=(Grow.below (L:=A.L) hq).trans g3;have F0:=f0.grow gq;have F1:=f1.grow gq;have hh3:=sJ.grow gq;have c0:=F0.cell 0 rfl;have c1:=F1.cell 0 rfl;have s0:=f2.cell 0 rfl;have s1:=f2.cell 1 rfl;obtain⟨vt,Nk,fh,hth⟩:=hh3;have h0:(w2.alloc (.cells #[I 1,zu n] 217)).cell? (J bh 1)=zs (A.bt s) 0:=fh.cell 1 rfl;have h3:=fh.cell 3 (v:=zu hu.at_) rfl;have t0:(w2.alloc (.cells #[I 1,zu n] 217)).cell? (J (A.bt s) 0)=zt t.id:=r3.fI HT.out 0 rfl;have GG:=U (zA r3 (zA (g1.trans gq) (zA F0 (zA F1 (show dS (kp A D s) A.L _ bh hu from ⟨vt,Nk,fh,hth⟩)))));clear r1 g1 f0 f1 sJ r3 g3 gq F0 F1 f2 fh hth hq;generalize w2.heap.size=b2 at*;generalize w2.alloc (.cells #[I 1,zu n] 217)=w3 at*
     go_quiet (fail)
     go_wp2_with fail
     go_quiet (fail)
     go_wp2_with fail;go_wp2_with (go_at_call 201;refine (mR (GG.out.1.drewN _) s bh hu (GG.out.2.2.2.2.grow (Grow.drewN _ _ _)) G).mono ?_;rintro e w4 ⟨A',v,rfl,q1,q2,q3,q4⟩);go_ret;exact⟨A',v,rfl,q1,(GG.out.2.1.trans (Grow.drewN _ _ _)).trans q2,q3,q4⟩
 . by_cases k2:k=2
   . subst k2
     have Qg:=hk2 rfl;rw[bu (by omega)];have ew:IntKind.i64.wrap (n:Int)=(n:Int):=by rw[je];omega
     clear hk3 hk2 k1 hnb
     by_cases hn:n=t.id
     . rw[aW (Or.inr hn)]
       have d1:((n:Int)==(t.id:Int))=true:=by simp;omega
       have d2:((n:Int)=(t.id:Int))=True:=by simp;omega
       clear hn Qg;go_enter Tryz.func183,Tryz.ntmps183;go_wp2_with (go_at_call 108;refine (HX.out _).mono ?_;rintro e w2 ⟨rfl,hq⟩);obtain⟨r1,g1⟩:=HR.out;obtain⟨f0,f1,sJ⟩:=HF.out;obtain⟨r3,g3,f2⟩:=dz (r1.below hq) #[I 2,zu n] 217;have gq:=(Grow.below (L:=A.L) hq).trans g3;have F0:=f0.grow gq;have F1:=f1.grow gq;have hh3:=sJ.grow gq;have c0:=F0.cell 0 rfl;have c1:=F1.cell 0 rfl;have s0:=f2.cell 0 rfl;have s1:=f2.cell 1 rfl;obtain⟨vt,Nk,fh,hth⟩:=hh3;have h0:(w2.alloc (.cells #[I 2,zu n] 217)).cell? (J bh 1)=zs (A.bt s) 0:=fh.cell 1 rfl;have h3:=fh.cell 3 (v:=zu hu.at_) rfl;have t0:(w2.alloc (.cells #[I 2,zu n] 217)).cell? (J (A.bt s) 0)=zt t.id:=r3.fI HT.out 0 rfl;have GG:=U (zA r3 (zA (g1.trans gq) (zA F0 (zA F1 (show dS (kp A D s) A.L _ bh hu from ⟨vt,Nk,fh,hth⟩)))));clear r1 g1 f0 f1 sJ r3 g3 gq F0 F1 f2 fh hth hq;generalize w2.heap.size=b2 at*;generalize w2.alloc (.cells #[I 2,zu n] 217)=w3 at*
       go_quiet (fail)
       go_wp2_with fail
       go_quiet (fail)
       go_wp2_with (go_at_call 201;refine (mR (GG.out.1.drewN _) s bh hu (GG.out.2.2.2.2.grow (Grow.drewN _ _ _)) G).mono ?_;rintro e w4 ⟨A',v,rfl,q1,q2,q3,q4⟩);go_ret;exact⟨A',v,rfl,q1,(GG.out.2.1.trans (Grow.drewN _ _ _)).trans q2,q3,q4⟩
     . rw[bu (by omega)]
       have d1:((n:Int)==(t.id:Int))=false:=by simp;omega
       have d2:((n:Int)=(t.id:Int))=False:=by simp;omega
       clear hn Qg;go_enter Tryz.func183,Tryz.ntmps183;go_wp2_with (go_at_call 108;refine (HX.out _).mono ?_;rintro e w2 ⟨rfl,hq⟩);obtain⟨r1,g1⟩:=HR.out;obtain⟨f0,f1,sJ⟩:=HF.out;obtain⟨r3,g3,f2⟩:=dz (r1.below hq) #[I 2,zu n] 217;have gq:=(Grow.below (L:=A.L) hq).trans g3;have F0:=f0.grow gq;have F1:=f1.grow gq;have hh3:=sJ.grow gq;have c0:=F0.cell 0 rfl;have c1:=F1.cell 0 rfl;have s0:=f2.cell 0 rfl;have s1:=f2.cell 1 rfl;obtain⟨vt,Nk,fh,hth⟩:=hh3;have h0:(w2.alloc (.cells #[I 2,zu n] 217)).cell? (J bh 1)=zs (A.bt s) 0:=fh.cell 1 rfl;have h3:=fh.cell 3 (v:=zu hu.at_) rfl;have t0:(w2.alloc (.cells #[I 2,zu n] 217)).cell? (J (A.bt s) 0)=zt t.id:=r3.fI HT.out 0 rfl;have GG:=U (zA r3 (zA (g1.trans gq) (zA F0 (zA F1 (show dS (kp A D s) A.L _ bh hu from ⟨vt,Nk,fh,hth⟩)))));clear r1 g1 f0 f1 sJ r3 g3 gq F0 F1 f2 fh hth hq;generalize w2.heap.size=b2 at*;generalize w2.alloc (.cells #[I 2,zu n] 217)=w3 at*;have GA:∀ q,aF A D (w3.drewN q)∧Grow A.L w A.L (w3.drewN q)∧Fix A.L (w3.drewN q) w.heap.size (.cells #[R bh 0] 246)∧Fix A.L (w3.drewN q) (w.heap.size+1) (.cells #[zu G] 25)∧dS (kp A D s) A.L (w3.drewN q) bh hu:=fun q=>
        ⟨GG.out.1.drewN q,GG.out.2.1.trans (Grow.drewN _ _ q),GG.out.2.2.1.grow (Grow.drewN _ _ q),GG.out.2.2.2.1.grow (Grow.drewN _ _ q),GG.out.2.2.2.2.grow (Grow.drewN _ _ q)⟩
       have HA:=U GA;clear GA
       go_quiet (fail)
       go_wp2_with fail
       go_quiet (fail)
       generalize hw:(w3.drewN _).drewN _=w5;have GB:aF A D w5∧Grow A.L w A.L w5∧Fix A.L w5 w.heap.size (.cells #[R bh 0] 246)∧Fix A.L w5 (w.heap.size+1) (.cells #[zu G] 25)∧dS (kp A D s) A.L w5 bh hu:=by
        rw[<-hw];obtain⟨p1,p2,p3,p4,p5⟩:=HA.out _;exact⟨p1.drewN _,p2.trans (Grow.drewN _ _ _),p3.grow (Grow.drewN _ _ _),p4.grow (Grow.drewN _ _ _),p5.grow (Grow.drewN _ _ _)⟩
       have s15:w5.cell? (J b2 1)=zv n:=by rw[<-hw];exact s1
       have HM:=U (dz GB.1 #[I n] 3);have HB:=U GB;clear GB hw;go_wp2_with fail;go_ret;obtain⟨m1,m2,m3⟩:=HM.out;obtain⟨_,p2,p3,p4,p5⟩:=HB.out;exact⟨A,_,rfl,m1,p2.trans m2,bU.refl _ _,_,_,_,rfl,⟨_,(p3.grow m2).box,p5.grow m2⟩,m3.box,(p4.grow m2).box⟩
   . rw[bu (fun e=>k1 e.1),aW (Or.inl k2)]
     have d1:((k:Int)==1)=false:=by simp;omega
     have d2:((k:Int)=1)=False:=by simp;omega
     have d3:((k:Int)==2)=false:=by simp;omega
     have d4:((k:Int)=2)=False:=by simp;omega
     have d5:((k:Int) !=2)=true:=by simp;omega
     clear k1 k2 hk2 hk3 hnb;go_enter Tryz.func183,Tryz.ntmps183;go_wp2_with (go_at_call 108;refine (HX.out _).mono ?_;rintro e w2 ⟨rfl,hq⟩);obtain⟨r1,g1⟩:=HR.out;obtain⟨f0,f1,sJ⟩:=HF.out;obtain⟨r3,g3,f2⟩:=dz (r1.below hq) #[I k,zu n] 217;have gq:=(Grow.below (L:=A.L) hq).trans g3;have F0:=f0.grow gq;have F1:=f1.grow gq;have hh3:=sJ.grow gq;have c0:=F0.cell 0 rfl;have c1:=F1.cell 0 rfl;have s0:=f2.cell 0 rfl;have s1:=f2.cell 1 rfl;obtain⟨vt,Nk,fh,hth⟩:=hh3;have h0:(w2.alloc (.cells #[I k,zu n] 217)).cell? (J bh 1)=zs (A.bt s) 0:=fh.cell 1 rfl;have h3:=fh.cell 3 (v:=zu hu.at_) rfl;have t0:(w2.alloc (.cells #[I k,zu n] 217)).cell? (J (A.bt s) 0)=zt t.id:=r3.fI HT.out 0 rfl;have GG:=U (zA r3 (zA (g1.trans gq) (zA F0 (zA F1 (show dS (kp A D s) A.L _ bh hu from ⟨vt,Nk,fh,hth⟩)))));clear r1 g1 f0 f1 sJ r3 g3 gq F0 F1 f2 fh hth hq;generalize w2.heap.size=b2 at*;generalize w2.alloc (.cells #[I k,zu n] 217)=w3 at*
     go_quiet (fail)
     go_wp2_with fail
     go_quiet (fail)
     go_wp2_with (go_at_call 201;refine (mR (GG.out.1.drewN _) s bh hu (GG.out.2.2.2.2.grow (Grow.drewN _ _ _)) G).mono ?_;rintro e w4 ⟨A',v,rfl,q1,q2,q3,q4⟩);go_ret;exact⟨A',v,rfl,q1,(GG.out.2.1.trans (Grow.drewN _ _ _)).trans q2,q3,q4⟩
def Nl (f:Nat->Nat) (p:Nat×Nat):MapEntry:=⟨I p.1,ptr (f p.1),p.2⟩
theorem qh (f:Nat->Nat) (F:Nat):∀ (l:List (Nat×Nat)) (i:Nat),Instr.findNow (.int .i64) (I F) (l.map (Nl f)) i=some none∧(∀ p∈l,p.1≠F)∨
 ∃ j,Instr.findNow (.int .i64) (I F) (l.map (Nl f)) i=some (some (j,ptr (f F)))∧∃ p∈l,p.1=F
 |[],i=>.inl ⟨rfl,by simp⟩
 |p::l,i=>by
  by_cases h:p.1=F
  . right
    refine⟨i,?_,p,by simp,h⟩;rw[List.map_cons];unfold Instr.findNow;simp[Nl,Instr.sameNow,h]
  . rcases qh f F l (i+1) with ⟨h1,h2⟩|⟨j,h1,q,hq,Y⟩
    . left
      refine⟨?_,fun q hq=>(List.mem_cons.1 hq).elim (fun e=>e ▸ h) (h2 q)⟩;rw[List.map_cons];unfold Instr.findNow;have hne:((F:Int)==(p.1:Int))=false:=by simp;omega
      simp[Nl,Instr.sameNow,hne];exact h1
    . right
      refine⟨j,?_,q,by simp[hq],Y⟩;rw[List.map_cons];unfold Instr.findNow;have hne:((F:Int)==(p.1:Int))=false:=by simp;omega
      simp[Nl,Instr.sameNow,hne];exact h1
theorem yO (A:az) (s:Nat) (t:bL):iq A s t=(t.cells.reverse.zipIdx.map fun p=>(p.1.1,p.2)).map (Nl (A.bx s)):=by
 unfold iq;rw[List.map_map];rfl
theorem EN {l:List (Nat×lg)} {F:Nat} {x:lg} (h:l.lookup F=some x):(F,x)∈l:=by
 induction l with
 |nil=>cases h
 |cons a l ih=>
  obtain⟨k,y⟩:=a;rw[List.lookup_cons] at h
  by_cases Y:F=k
  . subst Y
    simp at h;subst h;simp
  . rw[beq_false_of_ne Y] at h
    exact nV _ (ih h)
theorem tT (t:bL) (F:Nat):(∃ p∈(t.cells.reverse.zipIdx.map fun p=>(p.1.1,p.2)),p.1=F)↔(t.cell F).isSome=true:=by
 constructor
 . rintro ⟨p,hp,Y⟩
   obtain⟨q,hq,rfl⟩:=List.mem_map.1 hp;have h1:=List.mem_reverse.1 (List.fst_mem_of_mem_zipIdx hq)
   cases hc:t.cell F with
   |some x=>rfl
   |none=>exact absurd Y (qb hc _ h1)
 . intro h
   cases hc:t.cell F with
   |none=>rw[hc] at h;cases h
   |some x=>
    have h1:(F,x)∈t.cells:=by
     unfold bL.cell at hc;exact EN hc
    obtain⟨i,hi⟩:=List.getElem?_of_mem (List.mem_reverse.2 h1);refine⟨(F,i),List.mem_map.2 ⟨((F,x),i),?_,rfl⟩,rfl⟩;rw[List.mem_zipIdx_iff_getElem?];exact hi
def az.px (A:az) (s:Nat) (t:bL) (F:Nat):Value:=if (t.cell F).isSome then ptr (A.bx s F) else .pointer none
theorem gF (hR:aF A D w) {s:Nat} {t:bL} (ht:D.ai.getD s none=some t) (F:Nat):
 (Instr.lookup 116 (.map (some (A.bm s))) (I F) false).run Tryz.prog w=.ok (A.px s t F) w:=by
 have Z:=hR.map ht;have hz:(zeroValue 223).run Tryz.prog w=.ok (.pointer none) w:=by kernel_rfl
 have hck:∀ e,(Instr.checkKey e 10000 3 (I F)).run Tryz.prog w=.ok () w:=by
  intro e;unfold Instr.checkKey;simp[run_underlying Tryz.underlying3]
 rw[yO] at Z
 rcases qh (A.bx s) F (t.cells.reverse.zipIdx.map fun p=>(p.1.1,p.2)) 0 with ⟨h1,h2⟩|⟨j,h1,h2⟩
 . have e:A.px s t F=.pointer none:=by
    unfold az.px;rw[bu];intro h;obtain⟨p,hp,Y⟩:=(tT t F).2 h;exact h2 p hp Y
   rw[e];clear h2 e;generalize (t.cells.reverse.zipIdx.map fun p=>(p.1.1,p.2)).map (Nl (A.bx s))=es at*;simp[Instr.lookup,run_underlying Tryz.underlying116,run_underlying Tryz.underlying3,MapKept.run_getObj_map Z,hck,Instr.findKey,h1,hz,Result.andThen]
 . have e:A.px s t F=ptr (A.bx s F):=by
    unfold az.px;rw[aW ((tT t F).1 h2)]
   rw[e];clear h2 e;generalize (t.cells.reverse.zipIdx.map fun p=>(p.1.1,p.2)).map (Nl (A.bx s))=es at*;simp[Instr.lookup,run_underlying Tryz.underlying116,run_underlying Tryz.underlying3,MapKept.run_getObj_map Z,hck,Instr.findKey,h1,Result.andThen]
theorem Io (hR:aF A D w) (s:Nat) (t:bL) (ht:D.ai.getD s none=some t) (F G:Nat) (got:Bool):
 zk 143 #[R (A.bt s) 0,.agg #[I F,zu G,.bool got]] w fun e E=>e=.returned (.bool (t.needs (F,G,got)))∧Below w.heap.size w E:=by
 obtain⟨r1,g1,f0⟩:=dz hR #[I F,zu G,.bool got] 250;have hbl:Below w.heap.size w (w.alloc (.cells #[I F,zu G,.bool got] 250)):=(Below.refl _ _).alloc (zr _) _;have c0:=f0.cell 0 (v:=I F) rfl;have c2:=f0.cell 2 (v:=.bool got) rfl;have t7:=r1.fI ht 7 (v:=.map (some (A.bm s))) rfl;have t1:=r1.fI ht 1 (v:=I t.ax) rfl;have hlk:∀ n,(Instr.lookup 116 (.map (some (A.bm s))) (I F) false).run Tryz.prog ((w.alloc (.cells #[I F,zu G,.bool got] 250)).drewN n)=.ok (A.px s t F) ((w.alloc (.cells #[I F,zu G,.bool got] 250)).drewN n):=fun n=>gF (r1.drewN n) ht F
 have JG:=U hbl;clear hR ht r1 g1 f0 hbl;unfold bL.needs;unfold az.px at hlk;generalize t.ax=lv at*
 by_cases hx:(t.cell F).isSome=true
 . rw[aW hx] at hlk
   have hnone:(t.cell F).isNone=false:=by cases h:t.cell F<;>simp[h] at hx ⊢
   have HN:=U hnone;clear hx hnone;go_enter Tryz.func143,Tryz.ntmps143;go_wp2_with fail;generalize w.alloc (.cells #[I F,zu G,.bool got] 250)=w2 at*
   go_quiet (fail)
   go_wp2_with fail;go_ret;exact⟨by simp[HN.out],JG.out.trans ⟨rfl,rfl,rfl,zr _,fun _ _=>rfl⟩⟩
 . rw[bu hx] at hlk
   have hnone:(t.cell F).isNone=true:=by cases h:t.cell F<;>simp[h] at hx ⊢
   have HN:=U hnone;clear hx hnone
   by_cases h3:lv=3
   . have H3:=U h3
     have a3:((lv:Int)==3)=true:=by simp;omega
     have b3:((lv:Int)=3)=True:=by simp;omega
     clear h3;go_enter Tryz.func143,Tryz.ntmps143;go_wp2_with fail;generalize w.alloc (.cells #[I F,zu G,.bool got] 250)=w2 at*
     go_quiet (fail)
     go_wp2_with fail;go_ret;exact⟨by simp[HN.out,H3.out],JG.out.trans ⟨rfl,rfl,rfl,zr _,fun _ _=>rfl⟩⟩
   . by_cases h2:lv=2
     . have H3:=U h2
       have a3:((lv:Int)==3)=false:=by simp;omega
       have b3:((lv:Int)=3)=False:=by simp;omega
       have a2:((lv:Int)==2)=true:=by simp;omega
       have b2:((lv:Int)=2)=True:=by simp;omega
       clear h3 h2;go_enter Tryz.func143,Tryz.ntmps143;go_wp2_with fail;generalize w.alloc (.cells #[I F,zu G,.bool got] 250)=w2 at*
       go_quiet (fail)
       go_wp2_with fail;go_ret;exact⟨by simp[HN.out,H3.out],JG.out.trans ⟨rfl,rfl,rfl,zr _,fun _ _=>rfl⟩⟩
     . have H3:=U (zA h3 h2)
       have a3:((lv:Int)==3)=false:=by simp;omega
       have b3:((lv:Int)=3)=False:=by simp;omega
       have a2:((lv:Int)==2)=false:=by simp;omega
       have b2:((lv:Int)=2)=False:=by simp;omega
       clear h3 h2;go_enter Tryz.func143,Tryz.ntmps143;go_wp2_with fail;generalize w.alloc (.cells #[I F,zu G,.bool got] 250)=w2 at*
       go_quiet (fail)
       go_wp2_with fail;go_ret;exact⟨by simp[HN.out,H3.out.1,H3.out.2],JG.out.trans ⟨rfl,rfl,rfl,zr _,fun _ _=>rfl⟩⟩
theorem qi (hR:aF A D w) (s:Nat) (t:bL) (ht:D.ai.getD s none=some t) (h1:1<=t.id) (h2:t.id<=65535):
 zk 126 #[R (A.bt s) 0] w fun e E=>e=.returned (zu ((mine t:Nat):Int))∧w=E:=by
 have c0:w.cell? (J (A.bt s) 0)=zt t.id:=hR.fI ht 0 rfl;have e:((mine t:Nat):Int)=4611686018427387904+(t.id:Int):=by unfold mine nW;omega
 have hw:=Word.Nh (t.id:Int) (by omega) (by omega) w;rw[e];have HW:=U hw;clear hR ht h1 h2 e hw;go_enter Tryz.func126,Tryz.ntmps126;go_wp2_with (go_at_call 148;refine HW.out.mono ?_;rintro e E ⟨rfl,rfl⟩);go_ret;exact⟨rfl,rfl⟩
theorem Co (hR:aF A D w) (s:Nat) (t:bL) (ht:D.ai.getD s none=some t) (i:Nat):
 zk 144 #[R A.V 0,R (A.bt s) 0,R (A.bc s) 0,I i] w (bG A w s (D,jT t i)):=by
 obtain⟨r4,g4,f0,f1,f2,f3⟩:=jK hR #[R A.V 0] 32 #[R (A.bt s) 0] 100 #[R (A.bc s) 0] 105 #[I i] 3;have c0:=f0.cell 0 (v:=R A.V 0) rfl;have c1:=f1.cell 0 (v:=R (A.bt s) 0) rfl;have c2:=f2.cell 0 (v:=R (A.bc s) 0) rfl;have c3:=f3.cell 0 (v:=I i) rfl;have t9:=r4.fI ht 9 (v:=A.eQ s) rfl;have aY:=(r4.mem.all (.aR s))
 rw[mP ht] at aY;obtain⟨av,jB,hv,_⟩:=Ow.bO aY.1;rw[hv] at t9;have HR:=U (zA r4 (zA g4 (zA f0 (zA f1 (zA f2 f3)))));clear hR ht r4 g4 f0 f1 f2 f3 aY hv;unfold jT;generalize t.aR.length=n at*
 by_cases hi:i=n
 . rw[aW hi]
   have d1:((i:Int)==(n:Int))=true:=by simp;omega
   have d2:(i==n)=true:=by simp;omega
   have d3:((i:Int)=(n:Int))=True:=by simp;omega
   clear hi;go_enter Tryz.func144,Tryz.ntmps144;go_wp2_with fail;generalize (((w.alloc _).alloc _).alloc _).alloc _=w4 at*
   go_quiet (fail)
   go_wp2_with (go_at_call 163;refine (EM (HR.out.1.drewN _) s).mono ?_;rintro e w2 ⟨A2,v,rfl,p1,p2,p3,p4⟩);go_ret;exact⟨A2,v,rfl,p1,(HR.out.2.1.trans (Grow.drewN _ _ _)).trans p2,p3,p4⟩
 . rw[bu hi]
   have d1:((i:Int)==(n:Int))=false:=by simp;omega
   have d2:(i==n)=false:=by simp;omega
   have d3:((i:Int)=(n:Int))=False:=by simp;omega
   clear hi;go_enter Tryz.func144,Tryz.ntmps144;go_wp2_with fail;generalize hw4:(((w.alloc _).alloc _).alloc _).alloc _=w4 at*;have hz:w4.heap.size=w.heap.size+1+1+1+1:=by rw[<-hw4];simp
   have HZ:=U hz;clear hz hw4
   go_quiet (fail)
   generalize hw:w4.drewN _=w5;obtain⟨r,g,f0,f1,f2,f3⟩:=HR.out;have g5:Grow A.L w4 A.L w5:=by rw[<-hw];exact Grow.drewN _ _ _
   have r5:aF A D w5:=by rw[<-hw];exact r.drewN _
   obtain⟨r6,g6,f4⟩:=dz r5 #[.func (.func 164) #[] #[R w.heap.size 0,.pointer (some ⟨w.heap.size+1,0,none⟩),.pointer (some ⟨w.heap.size+1+1+1,0,none⟩),.pointer (some ⟨w.heap.size+1+1,0,none⟩),R w5.heap.size 0]] 139;have gg:=g5.trans g6;have HQ:=U (zA r6 (zA (g.trans gg) (zA (f0.grow gg) (zA (f1.grow gg) (zA (f3.grow gg) (zA (f2.grow gg) f4))))));clear r g f0 f1 f2 f3 g5 r5 r6 g6 f4 gg hw;go_wp2_with fail;go_ret;obtain⟨q1,q2,q3,q4,q5,q6,q7⟩:=HQ.out;exact⟨A,_,rfl,q1,q2,bU.refl _ _,_,_,_,_,_,rfl,q3.box,q4.box,q5.box,q6.box,q7.box⟩
theorem disable (w:World):(callFunc 214 #[]).run Tryz.prog w=.ok (.value (.tuple #[])) w:=run_call_mark0 Tryz.func214 (by kernel_rfl) (by kernel_rfl) (by kernel_rfl) .disable (by kernel_rfl) w
theorem enable (w:World):(callFunc 216 #[]).run Tryz.prog w=.ok (.value (.tuple #[])) w:=run_call_mark0 Tryz.func216 (by kernel_rfl) (by kernel_rfl) (by kernel_rfl) .enable (by kernel_rfl) w
theorem acquire (a:Addr) (w:World):(callFunc 217 #[.pointer (some a)]).run Tryz.prog w=.ok (.value (.tuple #[])) w:=run_call_marked Tryz.func217 (by kernel_rfl) (by kernel_rfl) (by kernel_rfl) .acquire (by kernel_rfl) a w
theorem releaseMerge (a:Addr) (w:World):(callFunc 219 #[.pointer (some a)]).run Tryz.prog w=.ok (.value (.tuple #[])) w:=run_call_marked Tryz.func219 (by kernel_rfl) (by kernel_rfl) (by kernel_rfl) .releaseMerge (by kernel_rfl) a w
theorem vV (a:Addr) (x:Value) (u:FrameMode) (w:World) (hc:w.cell? a=some x) (hz:w.frozen? a=false):
 CallsD Tryz.prog 189 #[.pointer (some a),.bool true] u w fun e u' E=>u'=u∧(e=.returned (.tuple #[])∧E=w.drew.setCell a (.int .u32 1)):=by
 have hc':w.drew.cell? a=some x:=by go_simp
 have hz':w.drew.frozen? a=false:=by go_simp
 have hst:=run_call_store (P:=Tryz.prog) Tryz.func205 (by kernel_rfl) (by kernel_rfl) (by kernel_rfl) (by kernel_rfl) (k:=.u32) (y:=1) hc' hz'
 go_enter_d Tryz.func189,Tryz.ntmps189
 go_wp2
 go_region_calls
 all_goals (go_end0;exact⟨rfl,rfl⟩)
theorem unlock_deferred (a:Addr) (u:FrameMode) (w:World) (hc:w.cell? a=some (.int .i32 1)) (hz:w.frozen? a=false):
 CallsD Tryz.prog 188 #[.pointer (some a)] u w fun e u' E=>u'=u∧(e=.returned (.tuple #[])∧E=w.setCell a (.int .i32 0)):=by
 have hd:=disable;have he:=enable;have hr:=releaseMerge;have hadd:=run_call_add (P:=Tryz.prog) Tryz.func220 (by kernel_rfl) (by kernel_rfl) (by kernel_rfl) .i32 (by kernel_rfl) (y:=-1) (s:=0) hc hz (by simp[go_sem];rfl);have hcv:=run_convert_to_unsafe (P:=Tryz.prog) (src:=281) (dst:=285) Tryz.underlying281 Tryz.underlying285 (by kernel_rfl) hc
 go_enter_d Tryz.func188,Tryz.ntmps188
 go_wp2
 go_end0
 go_wp2
 go_end0
 exact⟨rfl,rfl⟩
theorem lock_free (a:Addr) (w:World) (hc:w.cell? a=some (.int .i32 0)) (hz:w.frozen? a=false):
 zk 187 #[.pointer (some a)] w fun e E=>e=.returned (.tuple #[])∧E=w.setCell a (.int .i32 1):=by
 have hd:=disable;have he:=enable;have ha:=acquire;have hcas:=run_call_cas_hit (P:=Tryz.prog) Tryz.func215 (by kernel_rfl) (by kernel_rfl) (by kernel_rfl) .i32 (by kernel_rfl) (y:=1) hc hz;have hc':(w.setCell a (.int .i32 1)).cell? a=some (.int .i32 1):=World.cell?_setCell_same w a _ hc;have hcv:=run_convert_to_unsafe (P:=Tryz.prog) (src:=281) (dst:=285) Tryz.underlying281 Tryz.underlying285 (by kernel_rfl) hc';go_enter Tryz.func187,Tryz.ntmps187;go_wp2
 first|go_end0|(simp only[Exit.inBlock,Exit.then];refine bodyPost_ret (results_none rfl _ _ _) rfl ?_)|refine bodyPost_ret (results_none rfl _ _ _) rfl ?_
 go_wp2
 go_end0
 exact⟨rfl,rfl⟩
structure Held (b off:Nat) (w:World):Prop where
 d:w.cell? (J b off)=some (.int .u32 0)
 m:w.cell? (J b (off+1))=some (.int .i32 1)
 zd:w.frozen? (J b off)=false
 zm:w.frozen? (J b (off+1))=false
def GJ (b off:Nat) (w:World):World:=(w.drew.setCell (J b off) (.int .u32 1)).setCell (J b (off+1)) (.int .i32 0)
theorem J4 (b off fc:Nat) (qR:Array Value) (w:World) (Q:World->Prop) (h0:w.cell? (J b off)=some (.int .u32 0)) (h1:w.cell? (J b (off+1))=some (.int .i32 0))
 (f0:w.frozen? (J b off)=false) (f1:w.frozen? (J b (off+1))=false)
 (he:∀ w,(callFunc fc qR).run Tryz.prog w=.ok (.enter fc qR) w)
 (hf:zk fc qR (w.setCell (J b (off+1)) (.int .i32 1)) fun e E=>e=.returned (.tuple #[])∧Q E) (hq:∀ E,Q E->Held b off E):
 zk 166 #[R b off,.func (.func fc) #[] qR] w fun e E=>e=.returned (.tuple #[])∧∃ w2,Q w2∧E=GJ b off w2:=by
 have hl:=run_call_load (P:=Tryz.prog) Tryz.func186 (by kernel_rfl) (by kernel_rfl) (by kernel_rfl) .u32 (by kernel_rfl) (w:=w.setCell (J b (off+1)) (.int .i32 1)) (a:=(J b off)) (x:=0) ((World.cell?_setCell_other _ (J b (off+1)) (J b off) _ (by simp)).trans h0);have hnot:∀ (x:Bool) (w:World),(Op.unary .not (.bool x)).run Tryz.prog w=.ok (.bool (!x)) w:=fun _ _=>rfl
 have HF:=U hf;have HQ:=U hq;clear hf hq
 go_enter_defers Tryz.func166,Tryz.ntmps166
 go_wp2_with (first|(go_at_call 187;refine (lock_free (J b (off+1)) _ (by go_simp) (by go_simp)).mono ?_;rintro e E ⟨rfl,rfl⟩)|(go_at_call 165;go_in));refine HF.out.mono ?_;rintro e w2 ⟨rfl,hw2⟩;go_wp2;refine leaves_cons (f:=189) (args:=#[R b off,.bool true]) (by simp) (by simp[go_sem]) ?_;have HH:=HQ.out w2 hw2;refine (vV (J b off) (.int .u32 0) .returning _ HH.d HH.zd).mono ?_;rintro e u' w'' ⟨rfl,rfl,rfl⟩;refine leaves_cons (f:=188) (args:=#[R b (off+1)]) (by simp[settle]) (by simp[go_sem]) ?_;refine (unlock_deferred (J b (off+1)) _ _ ?_ ?_).mono ?_
 . refine (World.cell?_setCell_other _ (J b off) (J b (off+1)) _ (by simp)).trans ?_
   rw[World.cell?_drew];exact HH.m
 . simp[HH.zm]
 rintro e u' w'' ⟨rfl,rfl,rfl⟩;simp[Leaves,settle,results,Tryz.results166];exact⟨w2,hw2,rfl⟩
theorem Cq (b off fc:Nat) (qR:Array Value) (w:World) (Q:World->Prop) (h0:w.cell? (J b off)=some (.int .u32 0)) (h1:w.cell? (J b (off+1))=some (.int .i32 0))
 (f0:w.frozen? (J b off)=false) (f1:w.frozen? (J b (off+1))=false)
 (he:∀ w,(callFunc fc qR).run Tryz.prog w=.ok (.enter fc qR) w)
 (hf:zk fc qR (w.setCell (J b (off+1)) (.int .i32 1)) fun e E=>e=.returned (.tuple #[])∧Q E) (hq:∀ E,Q E->Held b off E):
 zk 146 #[R b off,.func (.func fc) #[] qR] w fun e E=>e=.returned (.tuple #[])∧∃ w2,Q w2∧E=GJ b off w2:=by
 have HS:=U (J4 b off fc qR w Q h0 h1 f0 f1 he hf hq);have hl:=run_call_load (P:=Tryz.prog) Tryz.func186 (by kernel_rfl) (by kernel_rfl) (by kernel_rfl) .u32 (by kernel_rfl) h0;have hnot:∀ (x:Bool) (w:World),(Op.unary .not (.bool x)).run Tryz.prog w=.ok (.bool (!x)) w:=fun _ _=>rfl
 clear he hf hq;go_enter Tryz.func146,Tryz.ntmps146;go_wp2_with (first|(go_at_call 166;refine HS.out.mono ?_;rintro e E ⟨rfl,hw⟩)|(go_at_call 165;go_in))
 go_end0
 exact⟨rfl,hw⟩
theorem EO (qR:Array Value) (w:World):(callFunc 161 qR).run Tryz.prog w=.ok (.enter 161 qR) w:=by kernel_rfl
theorem EP (qR:Array Value) (w:World):(callFunc 147 qR).run Tryz.prog w=.ok (.enter 147 qR) w:=by kernel_rfl
theorem GK (a:Addr) (fv:Value) (w:World) (h0:w.cell? a=some (.int .u32 1)):
 zk 146 #[.pointer (some a),fv] w fun e E=>e=.returned (.tuple #[])∧E=w:=by
 have hl:=run_call_load (P:=Tryz.prog) Tryz.func186 (by kernel_rfl) (by kernel_rfl) (by kernel_rfl) .u32 (by kernel_rfl) h0;have hnot:∀ (x:Bool) (w:World),(Op.unary .not (.bool x)).run Tryz.prog w=.ok (.bool (!x)) w:=fun _ _=>rfl
 go_enter Tryz.func146,Tryz.ntmps146;go_wp2
 go_end0
 exact⟨rfl,rfl⟩
theorem mY:∀ l:List (Nat×Nat),(bQ l).length=l.length*2
 |[]=>rfl
 |p::l=>by have:=mY l;simp[bQ,two] at this ⊢;omega
theorem vW:∀ (l:List (Nat×Nat)) (k:Nat) (p:Nat×Nat),l[k]? =some p->(bQ l)[k*2]? =zt p.1∧(bQ l)[k*2+1]? =zt p.2
 |[],_,_,h=>by cases h
 |q::l,0,p,h=>by
  obtain rfl:q=p:=by simpa using h
  exact⟨rfl,rfl⟩
 |q::l,k+1,p,h=>by
  have:=vW l k p (by simpa using h);rw[show (k+1)*2=k*2+1+1 by omega];exact this
theorem Nn (a b c d:Int) (w:World):(binOp .neq 152 (.agg #[I a,I b]) (.agg #[I c,I d])).run Tryz.prog w=.ok (.bool (!(decide (a=c)&&decide (b=d)))) w:=by
 go_simp
 repeat' split
 all_goals simp[*]
set_option maxHeartbeats 1000000 in
theorem vX (va vb:Value) (ps:List (Nat×Nat)) (ba bb:Nat) (w:World) (hA:Ow.Row w ba 2 va (bQ ps)) (hB:Ow.Row w bb 2 vb (bQ ps)):
 zk 52 #[va,vb] w fun e E=>e=.returned (.bool true)∧Below w.heap.size w E:=by
 obtain⟨a,n,cap,rfl,hn,hc,hm,ha⟩:=hA;obtain⟨b,n',cap',rfl,hn',hc',hm',Z⟩:=hB;rw[mY] at hn hn';obtain rfl:n=n':=by omega
 have HX:Hid (ps.length=n):=by exact (by omega:ps.length=n)
 unfold maxLen at hm;have hmax:n<=9223372036854775807:=by omega
 clear hn hn' hm hm' hc hc';go_enter Tryz.func52,Tryz.ntmps52;go_wp2
 go_loopw [5] (fun i wr=>(∃ k:Nat,k<=n∧i=I k)∧Below w.heap.size w wr) (fun i _=>n - (intOf i).toNat)
 case atStart=>exact⟨⟨0,by omega,rfl⟩,Below.refl _ _⟩
 case round=>
  obtain⟨⟨k,Y,rfl⟩,hbel⟩:=hrel
  by_cases hlt:k<n
  . rcases ha with ha|⟨g,off,rfl,_,hg,hcell⟩
    . omega
    rcases Z with Z|⟨g',off',rfl,_,hg',hcell'⟩
    . omega
    obtain⟨p,hp⟩:∃ p,ps[k]? =some p:=⟨_,ym (by rw[HX.out];exact hlt)⟩
    obtain⟨e1,e2⟩:=vW ps k p hp;have i1:(0:Int)<=(k:Int):=by omega
    have i2:(k:Int)<(n:Int):=by omega
    have c1:=hcell (k*2) (by omega);have c2:=hcell (k*2+1) (by omega);have d1:=hcell' (k*2) (by omega);have d2:=hcell' (k*2+1) (by omega);rw[e1] at c1 d1;rw[e2] at c2 d2;replace c1:=(hbel.cell (p:=⟨g,off+k*2,none⟩) hg).trans c1;replace c2:=(hbel.cell (p:=(J g (off+(k*2+1)))) hg).trans c2;replace d1:=(hbel.cell (p:=⟨g',off'+k*2,none⟩) hg').trans d1;replace d2:=(hbel.cell (p:=(J g' (off'+(k*2+1)))) hg').trans d2;have c3:wr.cell? ⟨g,off+k*2+1,none⟩=zt p.2:=c2;have d3:wr.cell? ⟨g',off'+k*2+1,none⟩=zt p.2:=d2;have hcmp:=Nn p.1 p.2 p.1 p.2;rw[show (!(decide ((p.1:Int)=(p.1:Int))&&decide ((p.2:Int)=(p.2:Int))))=false by simp] at hcmp;generalize (p.1:Int)=x at*;generalize (p.2:Int)=y at*;clear hp e1 e2 hcell hcell';go_wp2_with fail
    go_quiet (fail)
    go_wp2_with fail;exact⟨⟨⟨k+1,by omega,by go_num⟩,⟨hbel.os,hbel.tape,hbel.output,hbel.size,hbel.block⟩⟩,by simp[intOf];omega⟩
  . obtain rfl:k=n:=by omega
    go_wp2_with fail;go_ret;exact⟨rfl,hbel⟩
theorem GM {w:World} {base:Nat} {e:TypeId} {size:Nat} {v:Value} {n:Nat} {xs:List Value} (h:w.ownsRow base e size v n xs):Ow.Row w base size v xs:=by
 obtain⟨a,cap,rfl,h1,h2,a',m,c,e0,h3,h4,h5,h6⟩:=Ow.bO h;simp only[Value.slice.injEq] at e0;obtain⟨rfl,rfl,rfl⟩:=e0;exact⟨a,n,cap,rfl,h3,h1,by unfold maxLen;omega,h6⟩
theorem Row.alloc' {w:World} {base size:Nat} {v:Value} {xs:List Value} (h:Ow.Row w base size v xs) (o:Obj):Ow.Row (w.alloc o) base size v xs:=h.below ((Below.refl _ w).alloc (zr _) o)
theorem J5 (l y1 y2 y3 y4 y5 y6 y7 y8:Value) (w:World):(Instr.field 42 (.agg #[y1,l,y2,y3,y4,y5,y6,y7,y8]) 1).run Tryz.prog w=.ok l w:=by rfl
theorem Ip:(Tryz.prog.info? 203).map (fun i=>(i.zero,i.size,i.bytes))=some (some (.agg #[zu 0,I 0]),2,16):=by kernel_rfl
theorem Iq (l:List (Nat×Nat)):(mX l).length=2*l.length:=by
 unfold mX
 induction l with
 |nil=>rfl
 |cons a l ih=>rw[List.flatMap_cons,jb,ih];simp;omega
theorem Cr (l:List (Nat×Nat)) (x:Nat×Nat):mX (l++[x])=mX l++[u64 x.1,i64 x.2]:=by simp[mX]
def J6 (A:az) (D:St) (w:World) (x:Nat×Nat) (v:Value) (E:World):Prop:=
 ∃ L hc g cs av cap,v=.slice (some av) (D.cut.length+1) cap∧aF {A with L:=L,hcut:=hc,gu:=g,eG:=cs} D E∧Grow A.L w L E∧jd {A with L:=L,hcut:=hc,gu:=g,eG:=cs,jc:=v} (D.cut++[x])
theorem GQ {A:az} {D:St} {w E:World} {v':Value} {x:Nat×Nat} (hR:aF A D w) (h2:E.ownsRow w.heap.size 203 2 v' (D.cut.length+1) (mX (D.cut++[x]))) (h3:w.grownBy E none):J6 A D w x v' E:=by
 rcases h2.2 with ⟨_,h0⟩|⟨g,cap,cur,rfl,hbg,hgg,hnc,hcm,hcs,htk⟩
 . omega
 have Z:Below w.heap.size w E:=⟨h3.os,h3.tape,h3.output,h3.size,fun k Y=>h3.block k Y (by simp)⟩
 have hlt:g<E.heap.size:=gH hgg;have hR':=hR.below Z;have hg:Grow A.L w (jy A.L g .cut) E:=(Grow.below Z).jy hbg _;have XR:A.L g=none:=hR.mem.fresh g hbg;refine⟨jy A.L g .cut,true,g,cur.toList,(J g 0),cap,rfl,⟨?_,hR.ev.grow hg,hR.sl,hR.nw,hR.nt,hR.nv,hR.n8,hR.nc⟩,hg,.inr ⟨rfl,0,cap,by simp,?_,?_,?_,?_⟩⟩
 . refine (hR'.mem.Ce .cut XR (.obj g cur.toList 203) ⟨kG _ _ _,by simpa using hgg⟩ hlt).of_eq fun q=>?_
   cases q<;>rfl
 . simpa using hnc
 . simpa using hcm
 . show 2*(0+cap)<=cur.toList.length
   simp[hcs];omega
 . show (cur.toList.drop (2*0)).take (2*(D.cut++[x]).length)=_
   rw[<-htk];simp;congr 1;omega
theorem Ir (hR:aF A D w) {k cap:Nat} (hh:A.hcut=true) (Y:2*(k+cap)<=A.eG.length) (hn:D.cut.length<=cap) (ht:(A.eG.drop (2*k)).take (2*D.cut.length)=mX D.cut):
 A.L A.gu=some .cut∧w.heap[A.gu]? =some (.cells A.eG.toArray 203)∧(∀ j u,(mX D.cut)[j]? =some u->w.cell? ⟨A.gu,2*k+j,none⟩=some u):=by
 have he:bB A D .cut=.obj A.gu A.eG 203:=by simp only[bB,hh,cond_true]
 have h:=hR.mem.all .cut;rw[he] at h;refine⟨h.1,h.2,fun j u hu=>?_⟩;refine hR.mem.cell he (2*k+j) ?_;rw[<-ht,List.getElem?_take] at hu
 split at hu
 . rwa [List.getElem?_drop] at hu
 . cases hu
theorem Np (hR:aF A D w) (hC:jd A D.cut) (hlen:D.cut.length<1000000) (x:Nat×Nat) (ty:TypeId) (ad:Addr) (h0:w.cell? (ad.add 0)=some (u64 x.1)) (h1:w.cell? (ad.add 1)=some (i64 x.2)):
 ∃ v' E,(Builtin.append_ #[107,107] ty #[A.jc,.slice (some ad) 1 1]).run Tryz.prog w=.ok v' E∧J6 A D w x v' E:=by
 obtain⟨ii,hii,hz0,hz1,hz2⟩:=info_parts Ip;have hnews:∀ j u,[u64 x.1,i64 x.2][j]? =some u->w.cell? (ad.add j)=some u:=by
  intro j u hu
  match j,hu with
  |0,hu=>obtain rfl:=zj hu;exact h0
  |1,hu=>obtain rfl:=zj hu;exact h1
  |j+2,hu=>simp at hu
 have hone:∀ u∈[u64 x.1,i64 x.2],u.oneCell'=true:=by intro u hu;simp at hu;rcases hu with rfl|rfl<;>rfl
 rcases hC with ⟨-,hv,hl⟩|⟨hh,k,cap,hv,hn,hm,Y,ht⟩
 . obtain⟨v',E,hr,h2,h3,_⟩:=run_append_own (P:=Tryz.prog) w w.heap.size 107 ty 203 ii _ 2 16 Tryz.underlying107 hii hz0 hz1 hz2 rfl (by decide) (.slice none 0 0) 0 [] (World.ownsRow_nil _ _ _ _) ad 1 1 [u64 x.1,i64 x.2] rfl hnews hone (by unfold maxLen;omega) (by omega) (zr _)
   rw[hv];refine⟨v',E,hr,GQ hR ?_ h3⟩;rw[hl];exact h2
 . obtain⟨e1,e2,e3⟩:=Ir hR hh Y hn ht
   have hadd:∀ j,(⟨A.gu,2*k,none⟩:Addr).add j=⟨A.gu,2*k+j,none⟩:=fun j=>Addr.add_lit _ _ _
   rw[hv]
   by_cases hroom:D.cut.length+1<=cap
   . have hr:=run_append_room_cells (P:=Tryz.prog) w 107 ty 203 ii Tryz.underlying107 hii A.gu (2*k) D.cut.length cap ad 1 1 [u64 x.1,i64 x.2] (by rw[hz1];rfl) hnews hone hroom ?_ ?_
     . rw[hz1] at hr
       refine⟨_,_,hr,A.L,A.hcut,A.gu,(A.eG.set (2*k+D.cut.length*2) (u64 x.1)).set (2*k+D.cut.length*2+1) (i64 x.2),⟨A.gu,2*k,none⟩,cap,rfl,?_,?_,.inr ⟨hh,k,cap,?_,?_,hm,?_,?_⟩⟩
       . have he:bB A D .cut=.obj A.gu A.eG 203:=by simp only[bB,hh,cond_true]
         have g1:=hR.mem.df he (2*k+D.cut.length*2) (u64 x.1);have m1:=hR.mem.put .cut he (2*k+D.cut.length*2) (u64 x.1);have g2:=m1.df (fE _ _ _) (2*k+D.cut.length*2+1) (i64 x.2);have m2:=m1.put .cut (fE _ _ _) (2*k+D.cut.length*2+1) (i64 x.2);refine⟨m2.of_eq fun q=>?_,hR.ev.grow (g1.trans g2),hR.sl,hR.nw,hR.nt,hR.nv,hR.n8,hR.nc⟩
         cases q<;>first|rfl|(simp only[bB,hh,cond_true];rfl)
       . have he:bB A D .cut=.obj A.gu A.eG 203:=by simp only[bB,hh,cond_true]
         have g1:=hR.mem.df he (2*k+D.cut.length*2) (u64 x.1);have m1:=hR.mem.put .cut he (2*k+D.cut.length*2) (u64 x.1);exact g1.trans (m1.df (fE _ _ _) (2*k+D.cut.length*2+1) (i64 x.2))
       . simp
       . simpa using hroom
       . show _<=((A.eG.set _ _).set _ _).length
         simpa using Y
       . show (((A.eG.set _ _).set _ _).drop (2*k)).take _=_
         rw[Cr,<-ht];apply List.ext_getElem?
         intro j;simp only[List.getElem?_take,List.getElem?_drop,List.getElem?_append,List.length_take,List.length_drop,List.getElem?_set,nD,jb,List.length_cons,List.length_nil];have hmin:min (2*D.cut.length) (A.eG.length - 2*k)=2*D.cut.length:=by omega
         rw[hmin]
         by_cases hj:j<2*D.cut.length
         . rw[aW (by omega),bu (by omega),bu (by omega),aW hj,aW hj]
         . rw[bu hj]
           by_cases hj0:j=2*D.cut.length
           . subst hj0
             rw[aW (by omega),bu (by omega),aW (by omega),aW (by omega),Nat.sub_self];rfl
           . by_cases hj1:j=2*D.cut.length+1
             . subst hj1
               rw[aW (by omega),aW (by omega),aW (by omega),show 2*D.cut.length+1 - 2*D.cut.length=1 by omega];rfl
             . rw[bu (by omega),q9 (by simp;omega)]
     . intro j hj
       rw[hz1];have hlt:2*k+D.cut.length*2+j<A.eG.length:=by simp at hj;omega
       rw[cell_of_row w A.gu _ _ _ _ e2];simp[hlt]
     . intro j hj
       have he:bB A D .cut=.obj A.gu A.eG 203:=by simp only[bB,hh,cond_true]
       exact hR.mem.frozen he _
   . obtain⟨v',E,hr,h2,h3⟩:=run_append_arg_grows (P:=Tryz.prog) w 107 ty 203 ii _ 2 16 Tryz.underlying107 hii hz0 hz1 hz2 rfl (by decide) ⟨A.gu,2*k,none⟩ D.cut.length cap (mX D.cut) (by rw[Iq];omega) (fun j u hu=>by rw[hadd];exact e3 j u hu) ad 1 1 [u64 x.1,i64 x.2] rfl hnews (by omega) (by unfold maxLen;omega) (by omega)
     exact⟨v',E,hr,GQ hR (by rw[Cr];exact h2) h3⟩
theorem GR {A:az} {D:St} {o:Oper} {a:Act} {K:Act->World->Prop} {Q:Exit->Act->World->Prop} (w W:World) (s y:Operand)
 (ho:o.op=.call {callee:=.builtin .append,args:=#[s,y],argTypes:=#[107,107]})
 (hR:aF A D w) (hC:jd A D.cut) (hlen:D.cut.length<1000000) (v0:Value) (hv0:v0=A.jc) (hs:a.eval s=v0) (x:Nat×Nat) (hW:W=w.alloc (.cells #[zu x.1,I x.2] 203)) (hx:a.eval y=.slice (some (J w.heap.size 0)) 1 1)
 (h:∀ av n' cap' E,J6 A D w x (.slice av n' cap') E->K (a.put o.dst (.slice av n' cap')) E):o.wp Tryz.prog a W K Q:=by
 subst hW;have hR':=hR.alloc (.cells #[zu x.1,I x.2] 203);obtain⟨v',E,hr,L,hc,g,cs,av,cap,rfl,r',g',c'⟩:=Np hR' hC hlen x o.type (J w.heap.size 0) (Ow.iC w [zu x.1,I x.2] _ _ rfl 0 _ rfl) (Ow.iC w [zu x.1,I x.2] _ _ rfl 1 _ rfl);unfold Oper.wp execOp;simp only[ho,resolve,invoke,builtin,Sem.run_bind,Sem.run_pure,Result.andThen_ok,List.map_toArray,List.map_cons,List.map_nil,hs,hx,hv0,hr];exact h _ _ _ E ⟨L,hc,g,cs,av,cap,rfl,r',(Grow.alloc _ _ _).trans g',c'⟩
theorem jd.tail {A:az} {x:Nat×Nat} {l:List (Nat×Nat)} (h:jd A (x::l)):∃ k cap,A.hcut=true∧A.jc=.slice (some ⟨A.gu,2*k,none⟩) (l.length+1) cap∧l.length+1<=cap∧cap<=maxLen∧2*(k+cap)<=A.eG.length
 ∧jd {A with jc:=.slice (if cap=1 then some ⟨A.gu,2*k,none⟩ else some ⟨A.gu,2*k+2,none⟩) l.length (cap - 1)} l∧A.eG[2*k]? =some (u64 x.1)∧A.eG[2*k+1]? =some (i64 x.2):=by
 rcases h with ⟨-,-,hl⟩|⟨hh,k,cap,hv,hn,hm,Y,ht⟩
 . cases hl
 have hc0:A.eG[2*k]? =some (u64 x.1)∧A.eG[2*k+1]? =some (i64 x.2):=by
  have e:∀ j,j<2->A.eG[2*k+j]? =(mX (x::l))[j]? :=by
   intro j hj;rw[<-ht,List.getElem?_take,aW (by simp;omega),List.getElem?_drop]
  exact⟨e 0 (by omega),e 1 (by omega)⟩
 have hn':l.length+1<=cap:=hn;refine⟨k,cap,hh,hv,hn,by omega,Y,?_,hc0.1,hc0.2⟩
 by_cases h1:cap=1
 . have hl:l=[]:=List.eq_nil_of_length_eq_zero (by omega)
   subst hl;subst h1;exact .inr ⟨hh,k,0,rfl,zz _,by omega,by show 2*(k+0)<=A.eG.length;omega,by simp[mX]⟩
 . refine .inr ⟨hh,k+1,cap - 1,by simp[h1],by omega,by omega,by show 2*(k+1+(cap - 1))<=A.eG.length;omega,?_⟩
   show (A.eG.drop (2*(k+1))).take (2*l.length)=mX l;have e:mX l=(mX (x::l)).drop 2:=rfl;rw[e,<-ht,List.drop_take,List.drop_drop];simp
   congr 1
end Go.Proofs.YthicolbbmjfkfaaGreat.Em
