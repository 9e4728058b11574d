import Derived.Test.YthicolbbmjfkfaaGreatQn1
import Derived.Deep.QuietTactic
import Derived.BigQuiet
import Derived.StillTailTactics
import Derived.Test.YthicolbbmjfkfaaGreatQn2
import Derived.Deep.RegionHeld3
import Derived.Deep.RegionLaw
import Derived.MapKept
import Derived.Laws.EntriesVeiled
import Derived.Laws.LoneSync
set_option linter.unusedVariables false
set_option linter.unusedSimpArgs false
set_option maxRecDepth 100000
set_option maxHeartbeats 1600000
namespace Go.Proofs.YthicolbbmjfkfaaGreat.Em
open Go.ChangeShapes Go.WideShapes Go.ChangeAt Go.RowKit En
variable {A:au} {D:St} {w:World}
def vC (A:au) (w:World) (bB:St) (v:Value):Ending->World->Prop:=fun e E=>e=.returned v∧aC A bB E∧Grow A.L w A.L E
theorem Fh (h:aC A D w) (i:Nat) (hi:i<D.words.length) (hc:D.count<4000000000000000000):
 zk 80 #[R A.ba 0,I i] w fun e E=>e=.returned (R A.bw i)∧E=w.setCell (J A.ba 1) (I ((D.count:Int)+1)):=by
 have c0:=h.arena 0 rfl;have c1:w.cell? (J A.ba 1)=zt (D.count:Int):=h.arena 1 rfl;have z1:=h.Qz 1;generalize hn:D.words.length=n at*;have b1:(i:Int)<(n:Int):=by omega
 have b2:¬ (n:Int)<=(i:Int):=by omega
 have hadd:=run_call_add (P:=Tryz.prog) Tryz.func138 (by kernel_rfl) (by kernel_rfl) (by kernel_rfl) .i64 (by kernel_rfl) (y:=1) (s:=(D.count:Int)+1) c1 z1 (by simp[go_sem];rw[jG];omega);clear h hc hn hi;go_enter Tryz.func80,Tryz.ntmps80;go_wp2;go_ret;exact⟨rfl,rfl⟩
theorem iJ (h:aC A D w) (i:Nat) (hi:i<D.words.length) (hc:D.count<4000000000000000000):
 zk 42 #[R A.ba 0,I i] w (vC A w D.tick (zu (D.word i:Int))):=by
 obtain⟨h1,g1⟩:=h.tick;have c2:=h1.word (i:=i) hi;have hl:=run_call_load (P:=Tryz.prog) Tryz.func104 (by kernel_rfl) (by kernel_rfl) (by kernel_rfl) .u64 (by kernel_rfl) c2;have hat:=Fh h i hi hc;have zi:=zH h1;have aa:=zH g1;clear h1 g1 h hi hc;have e1:D.tick.word i=D.word i:=rfl;rw[e1] at hl c2;clear e1;generalize D.word i=x at*;go_enter Tryz.func42,Tryz.ntmps42;go_wp2_with (first|(go_at_call 80;refine hat.mono ?_;rintro e E ⟨rfl,rfl⟩)|(go_at_call 81;go_in));go_ret;exact⟨rfl,zi.out,aa.out⟩
theorem fT (h:aC A D w) (i n:Nat) (hi:i<D.words.length) (hc:D.count<4000000000000000000):
 zk 47 #[R A.ba 0,I i,zu n] w (vC A w (D.put i n) (.tuple #[])):=by
 obtain⟨h1,g1⟩:=h.tick;obtain⟨h2,g2⟩:=h.put i n;have c2:=h1.word (i:=i) hi;have z2:=h1.P8 i;have hl:=run_call_store (P:=Tryz.prog) Tryz.func106 (by kernel_rfl) (by kernel_rfl) (by kernel_rfl) (by kernel_rfl) (k:=.u64) (y:=(n:Int)) c2 z2;have hat:=Fh h i hi hc;have zi:=zH h2;have aa:=zH g2;clear h1 g1 h2 g2 h hi hc;generalize (n:Int)=y at*;go_enter Tryz.func47,Tryz.ntmps47;go_wp2_with (first|(go_at_call 80;refine hat.mono ?_;rintro e E ⟨rfl,rfl⟩)|(go_at_call 83;go_in))
 go_end0
 go_wp2
 go_end0
 exact⟨rfl,zi.out,aa.out⟩
theorem nO (h:aC A D w) (i o n:Nat) (hi:i<D.words.length) (hc:D.count<4000000000000000000):
 zk 45 #[R A.ba 0,I i,zu o,zu n] w (vC A w (D.cB i o n) (.bool (D.word i==o))):=by
 obtain⟨h1,g1⟩:=h.tick;obtain⟨h2,g2⟩:=h.put i n;have c2:=h1.word (i:=i) hi;have z2:=h1.P8 i;have e1:D.tick.word i=D.word i:=rfl;rw[e1] at c2;have hat:=Fh h i hi hc
 by_cases hx:D.word i=o
 . have e2:D.cB i o n=D.put i n:=aV hx
   have e3:(D.word i==o)=true:=by simp[hx]
   rw[e2,e3];rw[hx] at c2;have hl:=run_call_cas_hit (P:=Tryz.prog) Tryz.func105 (by kernel_rfl) (by kernel_rfl) (by kernel_rfl) .u64 (by kernel_rfl) (y:=(n:Int)) c2 z2;have zi:=zH h2;have aa:=zH g2;clear h1 g1 h2 g2 h hi hc hx e1 e2 e3;generalize (n:Int)=y at*;generalize (o:Int)=z at*;go_enter Tryz.func45,Tryz.ntmps45;go_wp2_with (first|(go_at_call 80;refine hat.mono ?_;rintro e E ⟨rfl,rfl⟩)|(go_at_call 82;go_in));go_ret;exact⟨rfl,zi.out,aa.out⟩
 . have e2:D.cB i o n=D.tick:=aR hx
   have e3:(D.word i==o)=false:=by simp[hx]
   rw[e2,e3];have hl:=run_call_cas_miss (P:=Tryz.prog) Tryz.func105 (by kernel_rfl) (by kernel_rfl) (by kernel_rfl) .u64 (by kernel_rfl) (o:=(o:Int)) (y:=(n:Int)) c2 z2 (by omega);have zi:=zH h1;have aa:=zH g1;clear h1 g1 h2 g2 h hi hc e1 e2 e3;generalize (n:Int)=y at*;generalize (o:Int)=z at*;go_enter Tryz.func45,Tryz.ntmps45;go_wp2_with (first|(go_at_call 80;refine hat.mono ?_;rintro e E ⟨rfl,rfl⟩)|(go_at_call 82;go_in));go_ret;exact⟨rfl,zi.out,aa.out⟩
theorem iX (h:aC A D w) (hc:D.count<4000000000000000000):
 zk 71 #[R A.ba 0] w fun e E=>e=.returned (I (D.count:Int))∧w=E:=by
 have c1:w.cell? (J A.ba 1)=zt (D.count:Int):=h.arena 1 rfl;have hl:=run_call_load (P:=Tryz.prog) Tryz.func133 (by kernel_rfl) (by kernel_rfl) (by kernel_rfl) .i64 (by kernel_rfl) c1;clear h hc;go_enter Tryz.func71,Tryz.ntmps71;go_wp2;go_ret;exact⟨rfl,rfl⟩
theorem Fj {l w:Nat} (h1:1<=l % 131072):((af l w:Nat):Int)=73+((l:Int) % 131072 - 1)*3+(w:Int):=by
 unfold af ag;omega
theorem CG (l k:Nat) (h1:1<=l % 131072) (h2:l % 131072<=256) (hl:l<18446744073709551616) (Z:k<=2) (w:World):
 zk 85 #[zu l,I k] w fun e E=>e=.returned (I ((af l k:Nat):Int))∧w=E:=by
 rw[Fj h1];have hu:=Word.pz (l:Int) (by omega) (by omega) w;generalize hi:(l:Int) % 131072 - 1=i at*;have b1:0<=i:=by omega
 have b2:i<=255:=by omega
 generalize hj:(k:Int)=j at*;have b3:0<=j:=by omega
 have b4:j<=2:=by omega
 have HU:=zH hu;clear h1 h2 hl Z hi hj hu;go_enter Tryz.func85,Tryz.ntmps85;go_wp2_with (go_at_call 107;refine HU.out.mono ?_;rintro e E ⟨rfl,rfl⟩);go_ret;exact⟨rfl,rfl⟩
theorem zD (h:aC A D w) (id:Nat) (hid:id<=65535):
 zk 48 #[R A.H 0,I id] w fun e E=>e=.returned (I ((D.place id:Nat):Int))∧w=E:=by
 have c0:w.cell? (J A.H 0)=zt (D.aF:Int):=h.df 0 rfl;have hsl:=h.sl;have e:((D.place id:Nat):Int)=73+(D.aF:Int)*3+(id:Int):=by unfold St.place;omega
 rw[e];clear e;generalize hs:(D.aF:Int)=s at*;have b1:1<=s:=by omega
 have b2:s<=256:=by omega
 generalize hj:(id:Int)=j at*;have b3:0<=j:=by omega
 have b4:j<=65535:=by omega
 clear h hsl hs hj hid;go_enter Tryz.func48,Tryz.ntmps48;go_wp2;go_ret;exact⟨rfl,rfl⟩
theorem KF (st en:Nat) (h1:st<8) (h2:en<1152921504606846976) (w:World):
 zk 49 #[I st,zu en] w fun e E=>e=.returned (zu ((pack st en:Nat):Int))∧w=E:=by
 have e:((pack st en:Nat):Int)=(en:Int)*8+(st:Int):=by unfold pack;omega
 rw[e];clear e;have eo:=Bt.NK (en:Int) (st:Int) (by omega) (by omega) (by omega) (by omega);have ew:IntKind.u64.wrap (st:Int)=(st:Int):=by rw[IntKind.wrap_u64];omega
 have es:IntKind.u64.wrap ((en:Int)*8)=(en:Int)*8:=by rw[IntKind.wrap_u64];omega
 generalize hs:(en:Int)=s at*;have b1:0<=s:=by omega
 have b2:s<1152921504606846976:=by omega
 generalize hj:(st:Int)=j at*;have b3:0<=j:=by omega
 have b4:j<8:=by omega
 clear hs hj h1 h2;go_enter Tryz.func49,Tryz.ntmps49;go_wp2;go_ret;exact⟨rfl,rfl⟩
theorem kX (s e:Int) (st en:Nat) (hs:(st:Int)=s) (he:(en:Int)=e) (h1:st<8) (h2:en<1152921504606846976) (w:World):
 zk 49 #[I s,zu e] w fun e E=>e=.returned (zu ((pack st en:Nat):Int))∧E=w:=by
 subst hs he;exact (KF st en h1 h2 w).mono fun _ _ h=>⟨h.1,h.2.symm⟩
theorem jl (x:Nat) (hx:x<18446744073709551616) (w:World):
 zk 109 #[zu x] w fun e E=>e=.returned (.tuple #[I ((bz x:Nat):Int),zu ((gX x:Nat):Int)])∧w=E:=by
 have e1:((bz x:Nat):Int)=(x:Int) % 8:=by unfold bz;omega
 have e2:((gX x:Nat):Int)=(x:Int) / 8:=by unfold gX;omega
 rw[e1,e2];clear e1 e2;have ea:=Bt.KA (x:Int);have b0:0<=(x:Int):=by omega
 have b1:(x:Int)<18446744073709551616:=by omega
 have ew:IntKind.i64.wrap ((x:Int) % 8)=(x:Int) % 8:=by rw[jG];omega
 generalize hs:(x:Int)=s at*;clear hs hx;go_enter Tryz.func109,Tryz.ntmps109;go_wp2
 go_ret2
 exact⟨rfl,rfl⟩
theorem oI (t id:Nat) (h1:t<281474976710656) (h2:id<65536) (w:World):
 zk 46 #[zu t,I id] w fun e E=>e=.returned (zu ((aW t id:Nat):Int))∧w=E:=by
 have e:((aW t id:Nat):Int)=(t:Int)*65536+(id:Int):=by unfold aW;omega
 rw[e];clear e;have eo:=Bt.u64_or16 (t:Int) (id:Int) (by omega) (by omega) (by omega) (by omega);have ew:IntKind.u64.wrap (id:Int)=(id:Int):=by rw[IntKind.wrap_u64];omega
 have es:IntKind.u64.wrap ((t:Int)*65536)=(t:Int)*65536:=by rw[IntKind.wrap_u64];omega
 generalize hs:(t:Int)=s at*;have b1:0<=s:=by omega
 have b2:s<281474976710656:=by omega
 generalize hj:(id:Int)=j at*;have b3:0<=j:=by omega
 have b4:j<65536:=by omega
 clear hs hj h1 h2;go_enter Tryz.func46,Tryz.ntmps46;go_wp2;go_ret;exact⟨rfl,rfl⟩
theorem kg (x:Nat) (hx:x<18446744073709551616) (w:World):
 zk 43 #[zu x] w fun e E=>e=.returned (.tuple #[zu ((ai x:Nat):Int),I ((aZ x:Nat):Int)])∧w=E:=by
 have e1:((aZ x:Nat):Int)=(x:Int) % 65536:=by unfold aZ;omega
 have e2:((ai x:Nat):Int)=(x:Int) / 65536:=by unfold ai;omega
 rw[e1,e2];clear e1 e2;have ea:=Bt.sW (x:Int);have b0:0<=(x:Int):=by omega
 have b1:(x:Int)<18446744073709551616:=by omega
 have ew:IntKind.i64.wrap ((x:Int) % 65536)=(x:Int) % 65536:=by rw[jG];omega
 generalize hs:(x:Int)=s at*;clear hs hx;go_enter Tryz.func43,Tryz.ntmps43;go_wp2
 go_ret2
 exact⟨rfl,rfl⟩
theorem wR (h:aC A D w) (x:Nat) (hx:x<18446744073709551616) (hi:aZ x<=2000) (hc:D.count<4000000000000000000):
 zk 44 #[R A.H 0,zu x] w (vC A w (D.dx x) (.tuple #[])):=by
 have c2:w.cell? (J A.H 2)=zs A.ba 0:=h.df 2 rfl;have k1:=kg x hx w;have k2:=(zD h.drew (aZ x) (by omega)).mono fun e E h=>(⟨h.1,h.2.symm⟩:_∧E=w.drew)
 have k3:=kX 1 0 1 0 rfl rfl (by omega) (by omega) w.drew;have k4:=kX 2 (ai x) 2 (ai x) rfl rfl (by omega) (by unfold ai;omega) w.drew;have k5:=nO h (D.place (aZ x)) (pack 1 0) (pack 2 (ai x)) (by rw[h.nw];unfold St.place;omega) hc;have K1:=zH k1;have K2:=zH k2;have K3:=zH k3;have K4:=zH k4;clear k5;have k6:=nO h.drew (D.place (aZ x)) (pack 1 0) (pack 2 (ai x)) (by rw[h.nw];unfold St.place;omega) hc;have G0:Grow A.L w A.L w.drew:=Grow.drew _ _;have K5:=zH k6;have HG:=zH G0;clear k1 k2 k3 k4 k6 h hx hi hc G0;go_enter Tryz.func44,Tryz.ntmps44;go_wp2_with (go_at_call 43;refine K1.out.mono ?_;rintro e E ⟨rfl,rfl⟩);refine wp_region_still_tail 10 (by kernel_rfl) (by kernel_rfl) ?_;simp only[jS,jT,jU,jV]
 repeat still_step
 still_call K2.out
 still_call K3.out
 repeat still_step
 still_call K4.out
 refine wpStill_nil ?_;change wpList _ _ _ _ _ w.drew;generalize w.drew=w2 at*;go_wp2_with (go_at_call 45;refine K5.out.mono ?_;rintro e E ⟨rfl,hR,hG⟩)
 go_end0
 exact⟨rfl,hR,HG.out.trans hG⟩
def jm (e:Nat) (L:dE) (w:World) (v:Value):Option S->Prop
 |none=>v=.nilFunc
 |some .now=>v=.func (.func 74) #[ptr e] #[]
 |some (.live s)=>∃ b0 b1,v=.func (.func 136) #[] #[ptr b0,ptr b1]∧aN L w b0 (ptr e)∧aN L w b1 (i64 s)
 |some (.head F)=>∃ b0 b1,v=.func (.func 159) #[] #[ptr b0,ptr b1]∧aN L w b0 (ptr e)∧aN L w b1 (i64 F)
 |some (.visit F ak G)=>∃ b0 b1 b2 b3,v=.func (.func 179) #[] #[ptr b0,ptr b1,ptr b2,ptr b3]∧aN L w b0 (ptr e)∧aN L w b1 (u64 G)∧aN L w b2 (i64 F)∧aN L w b3 (u64 ak)
 |some (.maker F ak G id)=>∃ b0 b1 b2 b3 b4,v=.func (.func 195) #[] #[ptr b0,ptr b1,ptr b2,ptr b3,ptr b4]∧aN L w b0 (ptr e)∧aN L w b1 (i64 id)∧aN L w b2 (i64 F)∧aN L w b3 (u64 ak)∧aN L w b4 (u64 G)
 |some (.dD F ak G b)=>∃ b0 b1 b2 b3 b4,v=.func (.func 198) #[] #[ptr b0,ptr b1,ptr b2,ptr b3,ptr b4]∧aN L w b0 (u64 b)∧aN L w b1 (ptr e)∧aN L w b2 (u64 G)∧aN L w b3 (i64 F)∧aN L w b4 (u64 ak)
 |some (.on F G)=>∃ b0 b1 b2,v=.func (.func 209) #[] #[ptr b0,ptr b1,ptr b2]∧aN L w b0 (ptr e)∧aN L w b1 (i64 F)∧aN L w b2 (u64 G)
 |some (.unlink F ak G)=>∃ b0 b1 b2 b3,v=.func (.func 207) #[] #[ptr b0,ptr b1,ptr b2,ptr b3]∧aN L w b0 (ptr e)∧aN L w b1 (u64 G)∧aN L w b2 (i64 F)∧aN L w b3 (u64 ak)
 |some (.cut F ak G nx)=>∃ b0 b1 b2 b3 b4,v=.func (.func 222) #[] #[ptr b0,ptr b1,ptr b2,ptr b3,ptr b4]∧aN L w b0 (u64 ak)∧aN L w b1 (ptr e)∧aN L w b2 (u64 nx)∧aN L w b3 (i64 F)∧aN L w b4 (u64 G)
theorem jm.grow {e:Nat} {L L':dE} {w E:World} {v:Value} (g:Grow L w L' E):∀ {k:Option S},jm e L w v k->jm e L' E v k
 |none,h=>h
 |some .now,h=>h
 |some (.live s),h=>let ⟨b0,b1,e,k0,k1⟩:=h;⟨b0,b1,e,k0.grow g,k1.grow g⟩
 |some (.head F),h=>let ⟨b0,b1,e,k0,k1⟩:=h;⟨b0,b1,e,k0.grow g,k1.grow g⟩
 |some (.visit F ak G),h=>let ⟨b0,b1,b2,b3,e,k0,k1,k2,k3⟩:=h;⟨b0,b1,b2,b3,e,k0.grow g,k1.grow g,k2.grow g,k3.grow g⟩
 |some (.maker F ak G id),h=>let ⟨b0,b1,b2,b3,b4,e,k0,k1,k2,k3,k4⟩:=h;⟨b0,b1,b2,b3,b4,e,k0.grow g,k1.grow g,k2.grow g,k3.grow g,k4.grow g⟩
 |some (.dD F ak G b),h=>let ⟨b0,b1,b2,b3,b4,e,k0,k1,k2,k3,k4⟩:=h;⟨b0,b1,b2,b3,b4,e,k0.grow g,k1.grow g,k2.grow g,k3.grow g,k4.grow g⟩
 |some (.on F G),h=>let ⟨b0,b1,b2,e,k0,k1,k2⟩:=h;⟨b0,b1,b2,e,k0.grow g,k1.grow g,k2.grow g⟩
 |some (.unlink F ak G),h=>let ⟨b0,b1,b2,b3,e,k0,k1,k2,k3⟩:=h;⟨b0,b1,b2,b3,e,k0.grow g,k1.grow g,k2.grow g,k3.grow g⟩
 |some (.cut F ak G nx),h=>let ⟨b0,b1,b2,b3,b4,e,k0,k1,k2,k3,k4⟩:=h;⟨b0,b1,b2,b3,b4,e,k0.grow g,k1.grow g,k2.grow g,k3.grow g,k4.grow g⟩
def nu (l:List (Nat×Nat)):List Value:=l.flatMap fun p=>[u64 p.1,i64 p.2]
def iW (A:au) (l:List (Nat×Nat)):Prop:=
 (A.hcut=false∧A.iV=.slice none 0 0∧l=[])∨
 (A.hcut=true∧∃ k cap,A.iV=.slice (some ⟨A.fP,2*k,none⟩) l.length cap∧l.length<=cap∧k+cap<=maxLen∧2*(k+cap)<=A.dV.length∧(A.dV.drop (2*k)).take (2*l.length)=nu l)
structure vD (A:au) (D:St) (w:World):Prop where
 sw:jm A.H A.L w (A.sv D.sw) D.sw
 cu:iW A D.cut
def au.Hw (A:au):Nat×(Value×Value×Bool×Nat×List Value):=(A.H,A.Vg)
theorem Bc {A A':au} (h:A'.Hw=A.Hw):A'.H=A.H:=congrArg (·.1) h
theorem KG {A A':au} (h:A'.Hw=A.Hw) (x:Option S):A'.sv x=A.sv x:=by
 have:A'.dX=A.dX:=congrArg (·.2.1) h;unfold au.sv;rw[this]
theorem iW.keep {A A':au} {l:List (Nat×Nat)} (h:iW A l) (e:A'.Hw=A.Hw):iW A' l:=by
 have c1:A'.iV=A.iV:=congrArg (·.2.2.1) e;have c2:A'.hcut=A.hcut:=congrArg (·.2.2.2.1) e;have c3:A'.fP=A.fP:=congrArg (·.2.2.2.2.1) e;have c4:A'.dV=A.dV:=congrArg (·.2.2.2.2.2) e;unfold iW;rw[c1,c2,c3,c4];exact h
theorem vD.keep {A A':au} {D bB:St} {w E:World} (h:vD A D w) (e:A'.Hw=A.Hw) (hs:bB.sw=D.sw∧bB.cut=D.cut) (g:Grow A.L w A'.L E):vD A' bB E:=
 ⟨by rw[Bc e,KG e,hs.1];exact h.sw.grow g,by rw[hs.2];exact h.cu.keep e⟩
structure KP where
 e:Nat
 t:Nat
 c:Nat
 x:Nat
 vp:Value
 ps:List (Nat×Nat)
def KP.xo (p:KP) (x:Bool):Value:=if x then ptr p.x else .pointer none
def kp (A:au) (D:St) (s:Nat):KP:=⟨A.H,A.bt s,A.bc s,A.bx s (D.c s).op.F,A.aY s,(D.c s).r.aO⟩
def CJ (r:oZ) (vp:Value):List Value:=[i64 r.e,i64 r.value,vp,i64 r.over,i64 r.aQ]
def mq (p:KP) (L:dE) (w:World) (b:Nat) (r:oZ):Prop:=∃ vp T,Fix L w b (.cells (CJ r vp).toArray T)∧((vp=p.vp∧r.aO=p.ps)∨(vp=.slice none 0 0∧r.aO=[]))
def lV (L:dE) (w:World) (b id:Nat):Prop:=∃ T,Fix L w b (.cells #[i64 2,u64 id] T)
def nP (L:dE) (w:World) (b G:Nat):Prop:=∃ T F got,Fix L w b (.cells #[i64 F,u64 G,.bool got] T)
def jO (L:dE) (w:World) (b:Nat) (x:Bool) (head:Nat):Prop:=∃ v,aN L w b v∧dS L w 1 v (if x then [] else [u64 head])
def lW (l:List zy):List Value:=l.flatMap fun x=>[i64 x.at_,u64 x.old,u64 x.new]
def nQ (L:dE) (w:World) (b:Nat) (l:List zy):Prop:=∃ v,aN L w b v∧dS L w 3 v (lW l)
def nR (p:KP) (L:dE) (w:World) (b F:Nat):Prop:=∃ v,aN L w b v∧∃ c0 c1,v=.func (.func 117) #[] #[ptr c0,ptr c1]∧aN L w c0 (ptr p.c)∧aN L w c1 (i64 F)
def lM (p:KP) (L:dE) (w:World) (b G head at_:Nat):Prop:=∃ v,aN L w b v∧∃ c0 c1 c2 c3 c4 c5,v=.func (.func 172) #[] #[ptr c0,ptr c1,ptr c2,ptr c3,ptr c4,ptr c5]∧aN L w c0 (ptr p.e)∧aN L w c1 (ptr p.t)∧aN L w c2 (ptr p.c)∧aN L w c3 (u64 G)∧aN L w c4 (u64 head)∧aN L w c5 (u64 at_)
def nS (p:KP) (L:dE) (w:World) (b Y now:Nat):Prop:=∃ v,aN L w b v∧∃ c0 c1 c2 c3 c4,v=.func (.func 120) #[] #[ptr c0,ptr c1,ptr c2,ptr c3,ptr c4]∧aN L w c0 (ptr p.e)∧aN L w c1 (u64 Y)∧aN L w c2 (u64 now)∧aN L w c3 (ptr p.t)∧aN L w c4 (ptr p.c)
def kI (p:KP) (L:dE) (w:World) (v:Value) (F:Nat):Qy->Prop
 |.get=>∃ b0 b1 b2 b3,v=.func (.func 115) #[] #[ptr b0,ptr b1,ptr b2,ptr b3]∧aN L w b0 (ptr p.t)∧aN L w b1 (i64 F)∧aN L w b2 (ptr p.e)∧aN L w b3 (ptr p.c)
 |.scan k=>∃ b0 b1 b2 b3 b4,v=.func (.func 118) #[] #[ptr b0,ptr b1,ptr b2,ptr b3,ptr b4]∧aN L w b0 (ptr p.t)∧aN L w b1 (i64 k)∧nR p L w b2 k∧aN L w b3 (ptr p.e)∧aN L w b4 (ptr p.c)
 |.change=>∃ b0 b1 b2 b3,v=.func (.func 130) #[] #[ptr b0,ptr b1,ptr b2,ptr b3]∧aN L w b0 (ptr p.c)∧aN L w b1 (ptr p.t)∧aN L w b2 (i64 F)∧aN L w b3 (ptr p.e)
 |.judge i l=>∃ b0 b1 b2 b3 b4,v=.func (.func 145) #[] #[ptr b0,ptr b1,ptr b2,ptr b3,ptr b4]∧nP L w b0 l∧aN L w b1 (ptr p.e)∧aN L w b2 (ptr p.t)∧aN L w b3 (ptr p.c)∧aN L w b4 (i64 i)
def dK (p:KP) (L:dE) (w:World) (bh:Nat) (h:dJ):Prop:=∃ vt T,Fix L w bh (.cells #[ptr p.e,ptr p.t,i64 h.F,u64 h.at_,vt] T)∧kI p L w vt h.F h.thn
def gV (p:KP) (L:dE) (w:World) (b:Nat) (h:dJ):Prop:=∃ bh,aN L w b (ptr bh)∧dK p L w bh h
def ny (p:KP) (L:dE) (w:World) (v:Value):K->Prop
 |.start h=>∃ bh,v=.func (.func 142) #[ptr bh] #[]∧dK p L w bh h
 |.fin r=>∃ b0 b1 b2,v=.func (.func 140) #[] #[ptr b0,ptr b1,ptr b2]∧aN L w b0 (ptr p.e)∧aN L w b1 (ptr p.c)∧mq p L w b2 r
 |.visit h G=>∃ b0 b1,v=.func (.func 182) #[] #[ptr b0,ptr b1]∧gV p L w b0 h∧aN L w b1 (u64 G)
 |.older h G=>∃ b0 b1,v=.func (.func 213) #[] #[ptr b0,ptr b1]∧gV p L w b0 h∧aN L w b1 (u64 G)
 |.maker h G id=>∃ b0 b1 b2,v=.func (.func 202) #[] #[ptr b0,ptr b1,ptr b2]∧gV p L w b0 h∧aN L w b1 (i64 id)∧aN L w b2 (u64 G)
 |.ended h G mb=>∃ b0 b1 b2,v=.func (.func 210) #[] #[ptr b0,ptr b1,ptr b2]∧gV p L w b0 h∧aN L w b1 (u64 G)∧aN L w b2 (i64 mb)
 |.gW h G mb id=>∃ b0 b1 b2 b3,v=.func (.func 225) #[] #[ptr b0,ptr b1,ptr b2,ptr b3]∧gV p L w b0 h∧aN L w b1 (i64 id)∧aN L w b2 (u64 G)∧aN L w b3 (i64 mb)
 |.seen h G mb=>∃ b0 b1 b2,v=.func (.func 223) #[] #[ptr b0,ptr b1,ptr b2]∧gV p L w b0 h∧aN L w b1 (i64 mb)∧aN L w b2 (u64 G)
 |.again aA=>∃ b0 b1 b2 b3,v=.func (.func 152) #[] #[ptr b0,ptr b1,ptr b2,ptr b3]∧aN L w b0 (ptr p.e)∧aN L w b1 (ptr p.x)∧aN L w b2 (u64 aA)∧aN L w b3 (ptr p.c)
 |.own G=>∃ b0 b1 b2 b3,v=.func (.func 155) #[] #[ptr b0,ptr b1,ptr b2,ptr b3]∧aN L w b0 (ptr p.e)∧aN L w b1 (u64 G)∧aN L w b2 (ptr p.t)∧aN L w b3 (ptr p.c)
 |.ib G Y id=>∃ b0 b1 b2 b3 b4 b5,v=.func (.func 157) #[] #[ptr b0,ptr b1,ptr b2,ptr b3,ptr b4,ptr b5]∧aN L w b0 (ptr p.e)∧aN L w b1 (i64 id)∧aN L w b2 (ptr p.t)∧aN L w b3 (ptr p.c)∧aN L w b4 (u64 G)∧aN L w b5 (u64 Y)
 |.claim G Y=>∃ b0 b1 b2 b3 b4,v=.func (.func 176) #[] #[ptr b0,ptr b1,ptr b2,ptr b3,ptr b4]∧aN L w b0 (ptr p.e)∧aN L w b1 (u64 G)∧aN L w b2 (u64 Y)∧aN L w b3 (ptr p.t)∧aN L w b4 (ptr p.c)
 |.fresh G=>∃ b0 b1 b2 b3,v=.func (.func 153) #[] #[ptr b0,ptr b1,ptr b2,ptr b3]∧aN L w b0 (ptr p.e)∧aN L w b1 (ptr p.c)∧aN L w b2 (ptr p.t)∧aN L w b3 (u64 G)
 |.next G head at_=>∃ b0 b1 b2 b3 b4 b5,v=.func (.func 172) #[] #[ptr b0,ptr b1,ptr b2,ptr b3,ptr b4,ptr b5]∧aN L w b0 (ptr p.e)∧aN L w b1 (ptr p.t)∧aN L w b2 (ptr p.c)∧aN L w b3 (u64 G)∧aN L w b4 (u64 head)∧aN L w b5 (u64 at_)
 |.free G head at_=>∃ b0 b1 b2 b3 b4 b5,v=.func (.func 173) #[] #[ptr b0,ptr b1,ptr b2,ptr b3,ptr b4,ptr b5]∧aN L w b0 (ptr p.e)∧aN L w b1 (u64 at_)∧aN L w b2 (ptr p.t)∧lM p L w b3 G head at_∧aN L w b4 (ptr p.c)∧aN L w b5 (u64 G)
 |.dM G head at_ id=>∃ b0 b1 b2 b3 b4 b5,v=.func (.func 175) #[] #[ptr b0,ptr b1,ptr b2,ptr b3,ptr b4,ptr b5]∧aN L w b0 (ptr p.e)∧lV L w b1 id∧aN L w b2 (ptr p.t)∧lM p L w b3 G head at_∧aN L w b4 (ptr p.c)∧aN L w b5 (u64 G)
 |.fB x G head=>∃ b0 b1 b2 b3 b4 b5,v=.func (.func 168) #[] #[ptr b0,ptr b1,ptr b2,ptr b3,ptr b4,ptr b5]∧aN L w b0 (ptr p.e)∧aN L w b1 (u64 G)∧aN L w b2 (ptr p.t)∧aN L w b3 (p.xo x)∧aN L w b4 (ptr p.c)∧jO L w b5 x head
 |.dZ x G head=>∃ b0 b1 b2 b3 b4 b5,v=.func (.func 169) #[] #[ptr b0,ptr b1,ptr b2,ptr b3,ptr b4,ptr b5]∧aN L w b0 (ptr p.e)∧aN L w b1 (u64 G)∧aN L w b2 (p.xo x)∧aN L w b3 (ptr p.t)∧aN L w b4 (ptr p.c)∧jO L w b5 x head
 |.push G head=>∃ b0 b1 b2 b3 b4,v=.func (.func 190) #[] #[ptr b0,ptr b1,ptr b2,ptr b3,ptr b4]∧aN L w b0 (ptr p.e)∧aN L w b1 (u64 G)∧aN L w b2 (u64 head)∧aN L w b3 (ptr p.c)∧aN L w b4 (ptr p.t)
 |.dL G head=>∃ b0 b1 b2 b3 b4,v=.func (.func 191) #[] #[ptr b0,ptr b1,ptr b2,ptr b3,ptr b4]∧aN L w b0 (ptr p.e)∧aN L w b1 (ptr p.c)∧aN L w b2 (u64 head)∧aN L w b3 (u64 G)∧aN L w b4 (ptr p.t)
 |.over G=>∃ b0 b1 b2 b3 b4,v=.func (.func 192) #[] #[ptr b0,ptr b1,ptr b2,ptr b3,ptr b4]∧aN L w b0 (ptr p.e)∧aN L w b1 (ptr p.c)∧aN L w b2 (u64 G)∧aN L w b3 (ptr p.t)∧aN L w b4 (ptr p.x)
 |.iq G head=>∃ b0 b1 b2 b3 b4 b5,v=.func (.func 193) #[] #[ptr b0,ptr b1,ptr b2,ptr b3,ptr b4,ptr b5]∧aN L w b0 (ptr p.e)∧aN L w b1 (u64 G)∧aN L w b2 (u64 head)∧aN L w b3 (ptr p.c)∧aN L w b4 (ptr p.t)∧aN L w b5 (ptr p.x)
 |.dQ G head=>∃ b0 b1 b2 b3 b4 b5,v=.func (.func 194) #[] #[ptr b0,ptr b1,ptr b2,ptr b3,ptr b4,ptr b5]∧aN L w b0 (ptr p.e)∧aN L w b1 (ptr p.c)∧aN L w b2 (u64 head)∧aN L w b3 (u64 G)∧aN L w b4 (ptr p.t)∧aN L w b5 (ptr p.x)
 |.draw=>∃ b0 b1 b2,v=.func (.func 119) #[] #[ptr b0,ptr b1,ptr b2]∧aN L w b0 (ptr p.e)∧aN L w b1 (ptr p.t)∧aN L w b2 (ptr p.c)
 |.ed Y now=>∃ b0 b1 b2,v=.func (.func 123) #[] #[ptr b0,ptr b1,ptr b2]∧aN L w b0 (ptr p.e)∧aN L w b1 (u64 Y)∧nS p L w b2 Y now
 |.turn Y now=>∃ b0 b1 b2 b3 b4,v=.func (.func 120) #[] #[ptr b0,ptr b1,ptr b2,ptr b3,ptr b4]∧aN L w b0 (ptr p.e)∧aN L w b1 (u64 Y)∧aN L w b2 (u64 now)∧aN L w b3 (ptr p.t)∧aN L w b4 (ptr p.c)
 |.dR=>∃ b0 b1 b2,v=.func (.func 121) #[] #[ptr b0,ptr b1,ptr b2]∧aN L w b0 (ptr p.e)∧aN L w b1 (ptr p.t)∧aN L w b2 (ptr p.c)
 |.wait i=>∃ b0 b1 b2 b3 b4,v=.func (.func 164) #[] #[ptr b0,ptr b1,ptr b2,ptr b3,ptr b4]∧aN L w b0 (ptr p.e)∧aN L w b1 (ptr p.t)∧aN L w b2 (i64 i)∧aN L w b3 (ptr p.c)∧aN L w b4 v
 |.turns [] r=>∃ b0 b1 b2 b3,v=.func (.func 149) #[] #[ptr b0,ptr b1,ptr b2,ptr b3]∧aN L w b0 (ptr p.e)∧aN L w b1 (ptr p.t)∧aN L w b2 (ptr p.c)∧mq p L w b3 r
 |.turns (x::l) r=>∃ b0 b1 b2 b3 b4,v=.func (.func 150) #[] #[ptr b0,ptr b1,ptr b2,ptr b3,ptr b4]∧nQ L w b0 (x::l)∧aN L w b1 (ptr p.e)∧aN L w b2 (ptr p.t)∧aN L w b3 (ptr p.c)∧mq p L w b4 r
 |.cZ=>∃ b0 b1 b2,v=.func (.func 184) #[] #[ptr b0,ptr b1,ptr b2]∧aN L w b0 (ptr p.e)∧aN L w b1 (ptr p.t)∧aN L w b2 (ptr p.c)
 |.abort e aQ=>∃ b0 b1 b2 b3 b4,v=.func (.func 124) #[] #[ptr b0,ptr b1,ptr b2,ptr b3,ptr b4]∧aN L w b0 (ptr p.e)∧aN L w b1 (ptr p.t)∧aN L w b2 (i64 aQ)∧aN L w b3 (ptr p.c)∧aN L w b4 (i64 e)
section
variable {p:KP} {L L':dE} {w E:World}
theorem mq.grow {b:Nat} {r:oZ} (h:mq p L w b r) (g:Grow L w L' E):mq p L' E b r:=let ⟨vp,T,h1,h2⟩:=h;⟨vp,T,h1.grow g,h2⟩
theorem lV.grow {b n:Nat} (h:lV L w b n) (g:Grow L w L' E):lV L' E b n:=let ⟨T,h1⟩:=h;⟨T,h1.grow g⟩
theorem nP.grow {b n:Nat} (h:nP L w b n) (g:Grow L w L' E):nP L' E b n:=let ⟨T,k,q,h1⟩:=h;⟨T,k,q,h1.grow g⟩
theorem jO.grow {b n:Nat} {x:Bool} (h:jO L w b x n) (g:Grow L w L' E):jO L' E b x n:=let ⟨v,h1,h2⟩:=h;⟨v,h1.grow g,h2.grow g⟩
theorem nQ.grow {b:Nat} {l:List zy} (h:nQ L w b l) (g:Grow L w L' E):nQ L' E b l:=let ⟨v,h1,h2⟩:=h;⟨v,h1.grow g,h2.grow g⟩
theorem nR.grow {b k:Nat} (h:nR p L w b k) (g:Grow L w L' E):nR p L' E b k:=let ⟨v,h1,c0,c1,e,k0,k1⟩:=h;⟨v,h1.grow g,c0,c1,e,k0.grow g,k1.grow g⟩
theorem lM.grow {b l1 l2 l3:Nat} (h:lM p L w b l1 l2 l3) (g:Grow L w L' E):lM p L' E b l1 l2 l3:=let ⟨v,h1,c0,c1,c2,c3,c4,c5,e,k0,k1,k2,k3,k4,k5⟩:=h;⟨v,h1.grow g,c0,c1,c2,c3,c4,c5,e,k0.grow g,k1.grow g,k2.grow g,k3.grow g,k4.grow g,k5.grow g⟩
theorem nS.grow {b l1 l2:Nat} (h:nS p L w b l1 l2) (g:Grow L w L' E):nS p L' E b l1 l2:=let ⟨v,h1,c0,c1,c2,c3,c4,e,k0,k1,k2,k3,k4⟩:=h;⟨v,h1.grow g,c0,c1,c2,c3,c4,e,k0.grow g,k1.grow g,k2.grow g,k3.grow g,k4.grow g⟩
theorem kI.grow {v:Value} {F:Nat} {t:Qy} (h:kI p L w v F t) (g:Grow L w L' E):kI p L' E v F t:=
 match t,h with
 |.get,hh=>let ⟨b0,b1,b2,b3,e,k0,k1,k2,k3⟩:=hh;⟨b0,b1,b2,b3,e,k0.grow g,k1.grow g,k2.grow g,k3.grow g⟩
 |.scan k,hh=>let ⟨b0,b1,b2,b3,b4,e,k0,k1,k2,k3,k4⟩:=hh;⟨b0,b1,b2,b3,b4,e,k0.grow g,k1.grow g,k2.grow g,k3.grow g,k4.grow g⟩
 |.change,hh=>let ⟨b0,b1,b2,b3,e,k0,k1,k2,k3⟩:=hh;⟨b0,b1,b2,b3,e,k0.grow g,k1.grow g,k2.grow g,k3.grow g⟩
 |.judge i l,hh=>let ⟨b0,b1,b2,b3,b4,e,k0,k1,k2,k3,k4⟩:=hh;⟨b0,b1,b2,b3,b4,e,k0.grow g,k1.grow g,k2.grow g,k3.grow g,k4.grow g⟩
theorem dK.grow {b:Nat} {h:dJ} (hh:dK p L w b h) (g:Grow L w L' E):dK p L' E b h:=let ⟨v,T,h1,h2⟩:=hh;⟨v,T,h1.grow g,h2.grow g⟩
theorem gV.grow {b:Nat} {h:dJ} (hh:gV p L w b h) (g:Grow L w L' E):gV p L' E b h:=let ⟨v,h1,h2⟩:=hh;⟨v,h1.grow g,h2.grow g⟩
theorem ny.grow {v:Value} {k:K} (h:ny p L w v k) (g:Grow L w L' E):ny p L' E v k:=
 match k,h with
 |.start _,⟨bh,e,h1⟩=>⟨bh,e,h1.grow g⟩
 |.fin r,hh=>let ⟨b0,b1,b2,e,k0,k1,k2⟩:=hh;⟨b0,b1,b2,e,k0.grow g,k1.grow g,k2.grow g⟩
 |.visit h G,hh=>let ⟨b0,b1,e,k0,k1⟩:=hh;⟨b0,b1,e,k0.grow g,k1.grow g⟩
 |.older h G,hh=>let ⟨b0,b1,e,k0,k1⟩:=hh;⟨b0,b1,e,k0.grow g,k1.grow g⟩
 |.maker h G id,hh=>let ⟨b0,b1,b2,e,k0,k1,k2⟩:=hh;⟨b0,b1,b2,e,k0.grow g,k1.grow g,k2.grow g⟩
 |.ended h G mb,hh=>let ⟨b0,b1,b2,e,k0,k1,k2⟩:=hh;⟨b0,b1,b2,e,k0.grow g,k1.grow g,k2.grow g⟩
 |.gW h G mb id,hh=>let ⟨b0,b1,b2,b3,e,k0,k1,k2,k3⟩:=hh;⟨b0,b1,b2,b3,e,k0.grow g,k1.grow g,k2.grow g,k3.grow g⟩
 |.seen h G mb,hh=>let ⟨b0,b1,b2,e,k0,k1,k2⟩:=hh;⟨b0,b1,b2,e,k0.grow g,k1.grow g,k2.grow g⟩
 |.again aA,hh=>let ⟨b0,b1,b2,b3,e,k0,k1,k2,k3⟩:=hh;⟨b0,b1,b2,b3,e,k0.grow g,k1.grow g,k2.grow g,k3.grow g⟩
 |.own G,hh=>let ⟨b0,b1,b2,b3,e,k0,k1,k2,k3⟩:=hh;⟨b0,b1,b2,b3,e,k0.grow g,k1.grow g,k2.grow g,k3.grow g⟩
 |.ib G Y id,hh=>let ⟨b0,b1,b2,b3,b4,b5,e,k0,k1,k2,k3,k4,k5⟩:=hh;⟨b0,b1,b2,b3,b4,b5,e,k0.grow g,k1.grow g,k2.grow g,k3.grow g,k4.grow g,k5.grow g⟩
 |.claim G Y,hh=>let ⟨b0,b1,b2,b3,b4,e,k0,k1,k2,k3,k4⟩:=hh;⟨b0,b1,b2,b3,b4,e,k0.grow g,k1.grow g,k2.grow g,k3.grow g,k4.grow g⟩
 |.fresh G,hh=>let ⟨b0,b1,b2,b3,e,k0,k1,k2,k3⟩:=hh;⟨b0,b1,b2,b3,e,k0.grow g,k1.grow g,k2.grow g,k3.grow g⟩
 |.next G head at_,hh=>let ⟨b0,b1,b2,b3,b4,b5,e,k0,k1,k2,k3,k4,k5⟩:=hh;⟨b0,b1,b2,b3,b4,b5,e,k0.grow g,k1.grow g,k2.grow g,k3.grow g,k4.grow g,k5.grow g⟩
 |.free G head at_,hh=>let ⟨b0,b1,b2,b3,b4,b5,e,k0,k1,k2,k3,k4,k5⟩:=hh;⟨b0,b1,b2,b3,b4,b5,e,k0.grow g,k1.grow g,k2.grow g,k3.grow g,k4.grow g,k5.grow g⟩
 |.dM G head at_ id,hh=>let ⟨b0,b1,b2,b3,b4,b5,e,k0,k1,k2,k3,k4,k5⟩:=hh;⟨b0,b1,b2,b3,b4,b5,e,k0.grow g,k1.grow g,k2.grow g,k3.grow g,k4.grow g,k5.grow g⟩
 |.fB x G head,hh=>let ⟨b0,b1,b2,b3,b4,b5,e,k0,k1,k2,k3,k4,k5⟩:=hh;⟨b0,b1,b2,b3,b4,b5,e,k0.grow g,k1.grow g,k2.grow g,k3.grow g,k4.grow g,k5.grow g⟩
 |.dZ x G head,hh=>let ⟨b0,b1,b2,b3,b4,b5,e,k0,k1,k2,k3,k4,k5⟩:=hh;⟨b0,b1,b2,b3,b4,b5,e,k0.grow g,k1.grow g,k2.grow g,k3.grow g,k4.grow g,k5.grow g⟩
 |.push G head,hh=>let ⟨b0,b1,b2,b3,b4,e,k0,k1,k2,k3,k4⟩:=hh;⟨b0,b1,b2,b3,b4,e,k0.grow g,k1.grow g,k2.grow g,k3.grow g,k4.grow g⟩
 |.dL G head,hh=>let ⟨b0,b1,b2,b3,b4,e,k0,k1,k2,k3,k4⟩:=hh;⟨b0,b1,b2,b3,b4,e,k0.grow g,k1.grow g,k2.grow g,k3.grow g,k4.grow g⟩
 |.over G,hh=>let ⟨b0,b1,b2,b3,b4,e,k0,k1,k2,k3,k4⟩:=hh;⟨b0,b1,b2,b3,b4,e,k0.grow g,k1.grow g,k2.grow g,k3.grow g,k4.grow g⟩
 |.iq G head,hh=>let ⟨b0,b1,b2,b3,b4,b5,e,k0,k1,k2,k3,k4,k5⟩:=hh;⟨b0,b1,b2,b3,b4,b5,e,k0.grow g,k1.grow g,k2.grow g,k3.grow g,k4.grow g,k5.grow g⟩
 |.dQ G head,hh=>let ⟨b0,b1,b2,b3,b4,b5,e,k0,k1,k2,k3,k4,k5⟩:=hh;⟨b0,b1,b2,b3,b4,b5,e,k0.grow g,k1.grow g,k2.grow g,k3.grow g,k4.grow g,k5.grow g⟩
 |.draw,hh=>let ⟨b0,b1,b2,e,k0,k1,k2⟩:=hh;⟨b0,b1,b2,e,k0.grow g,k1.grow g,k2.grow g⟩
 |.ed Y now,hh=>let ⟨b0,b1,b2,e,k0,k1,k2⟩:=hh;⟨b0,b1,b2,e,k0.grow g,k1.grow g,k2.grow g⟩
 |.turn Y now,hh=>let ⟨b0,b1,b2,b3,b4,e,k0,k1,k2,k3,k4⟩:=hh;⟨b0,b1,b2,b3,b4,e,k0.grow g,k1.grow g,k2.grow g,k3.grow g,k4.grow g⟩
 |.dR,hh=>let ⟨b0,b1,b2,e,k0,k1,k2⟩:=hh;⟨b0,b1,b2,e,k0.grow g,k1.grow g,k2.grow g⟩
 |.wait i,hh=>let ⟨b0,b1,b2,b3,b4,e,k0,k1,k2,k3,k4⟩:=hh;⟨b0,b1,b2,b3,b4,e,k0.grow g,k1.grow g,k2.grow g,k3.grow g,k4.grow g⟩
 |.turns [] r,hh=>let ⟨b0,b1,b2,b3,e,k0,k1,k2,k3⟩:=hh;⟨b0,b1,b2,b3,e,k0.grow g,k1.grow g,k2.grow g,k3.grow g⟩
 |.turns (x::l) r,hh=>let ⟨b0,b1,b2,b3,b4,e,k0,k1,k2,k3,k4⟩:=hh;⟨b0,b1,b2,b3,b4,e,k0.grow g,k1.grow g,k2.grow g,k3.grow g,k4.grow g⟩
 |.cZ,hh=>let ⟨b0,b1,b2,e,k0,k1,k2⟩:=hh;⟨b0,b1,b2,e,k0.grow g,k1.grow g,k2.grow g⟩
 |.abort e aQ,hh=>let ⟨b0,b1,b2,b3,b4,e,k0,k1,k2,k3,k4⟩:=hh;⟨b0,b1,b2,b3,b4,e,k0.grow g,k1.grow g,k2.grow g,k3.grow g,k4.grow g⟩
end
structure bT (A A':au) (s:Nat):Prop where
 bf:A'.Hw=A.Hw
 ba:A'.ba=A.ba
 bp:A'.bp=A.bp
 bt:A'.bt=A.bt
 bm:A'.bm=A.bm
 bc:A'.bc=A.bc
 bA:A'.bA=A.bA
 bF:A'.bF=A.bF
 dX:A'.dX=A.dX
 mp:A'.mp=A.mp
 mt:A'.mt=A.mt
 bx:∀ k,k≠s->A'.bx k=A.bx k
 aY:∀ k,k≠s->A'.aY k=A.aY k
theorem bT.H {A A':au} {s:Nat} (h:bT A A' s):A'.H=A.H:=Bc h.bf
theorem bT.refl (A:au) (s:Nat):bT A A s:=⟨rfl,rfl,rfl,rfl,rfl,rfl,rfl,rfl,rfl,rfl,rfl,fun _ _=>rfl,fun _ _=>rfl⟩
theorem bT.trans {A B C:au} {s:Nat} (h:bT A B s) (k:bT B C s):bT A C s:=
 ⟨k.bf.trans h.bf,k.ba.trans h.ba,k.bp.trans h.bp,k.bt.trans h.bt,k.bm.trans h.bm,k.bc.trans h.bc,k.bA.trans h.bA,k.bF.trans h.bF,k.dX.trans h.dX,k.mp.trans h.mp,k.mt.trans h.mt,fun j hj=>(k.bx j hj).trans (h.bx j hj),fun j hj=>(k.aY j hj).trans (h.aY j hj)⟩
def kY (A:au) (w:World) (s:Nat) (r:St×Option K):Ending->World->Prop:=fun e E=>
 ∃ A' v,e=.returned v∧aC A' r.1 E∧Grow A.L w A'.L E∧bT A A' s∧(match r.2 with|some k=>ny (kp A' r.1 s) A'.L E v k|none=>v=.nilFunc)
def bE (A:au) (w:World) (s:Nat) (r:St×K):Ending->World->Prop:=fun e E=>
 ∃ A' v,e=.returned v∧aC A' r.1 E∧Grow A.L w A'.L E∧bT A A' s∧ny (kp A' r.1 s) A'.L E v r.2
structure Kp (A:au) (w E:World):Prop where
 fix:∀ b o v,A.L b=none->w.cell? (J b o)=some v->E.cell? (J b o)=some v
 ea:E.cell? (J A.H 2)=some (ptr A.ba)
theorem Kp.of {A A':au} {bB:St} {w E:World} {s:Nat} (g:Grow A.L w A'.L E) (h:aC A' bB E) (st:bT A A' s):Kp A w E:=
 ⟨fun b o v hl hc=>(World.cell?_of_block (w:=w) (a:=(J b o)) (g.block b (World.block_lt_of_cell? w _ hc) hl)).trans hc,by have:=h.df 2 (v:=ptr A'.ba) rfl;rw[st.H,st.ba] at this;exact this⟩
theorem Fix.box {L:dE} {w:World} {b:Nat} {v:Value} {T:TypeId} (h:Fix L w b (.cells #[v] T)):aN L w b v:=⟨T,h⟩
theorem kr (w:World) (o:Obj):(w.alloc o).heap.size=w.heap.size+1:=by simp
theorem eP {L:dE} {w:World} {b:Nat} (hf:∀ k,w.heap.size<=k->L k=none) (o:Obj) (hb:b=w.heap.size):Fix L (w.alloc o) b o:=by subst hb;exact Fix.alloc (hf _ (zr _))
theorem dA (hR:aC A D w) (c0:Array Value) (T0:TypeId):aC A D (w.alloc (.cells c0 T0))∧Grow A.L w A.L (w.alloc (.cells c0 T0))∧Fix A.L (w.alloc (.cells c0 T0)) (w.heap.size) (.cells c0 T0):=by
 exact⟨hR.alloc _,Grow.alloc _ _ _,eP hR.mem.fresh _ rfl⟩
theorem jy (hR:aC A D w) (c0:Array Value) (T0:TypeId) (c1:Array Value) (T1:TypeId):aC A D ((w.alloc (.cells c0 T0)).alloc (.cells c1 T1))∧Grow A.L w A.L ((w.alloc (.cells c0 T0)).alloc (.cells c1 T1))∧Fix A.L ((w.alloc (.cells c0 T0)).alloc (.cells c1 T1)) (w.heap.size) (.cells c0 T0)∧Fix A.L ((w.alloc (.cells c0 T0)).alloc (.cells c1 T1)) (w.heap.size+1) (.cells c1 T1):=by
 obtain⟨r,g,f0⟩:=dA hR c0 T0;have k:=Grow.alloc A.L (w.alloc (.cells c0 T0)) (.cells c1 T1);exact⟨r.alloc _,g.trans k,f0.grow k,eP r.mem.fresh _ (by simp)⟩
theorem je (hR:aC A D w) (c0:Array Value) (T0:TypeId) (c1:Array Value) (T1:TypeId) (c2:Array Value) (T2:TypeId):aC A D (((w.alloc (.cells c0 T0)).alloc (.cells c1 T1)).alloc (.cells c2 T2))∧Grow A.L w A.L (((w.alloc (.cells c0 T0)).alloc (.cells c1 T1)).alloc (.cells c2 T2))∧Fix A.L (((w.alloc (.cells c0 T0)).alloc (.cells c1 T1)).alloc (.cells c2 T2)) (w.heap.size) (.cells c0 T0)∧Fix A.L (((w.alloc (.cells c0 T0)).alloc (.cells c1 T1)).alloc (.cells c2 T2)) (w.heap.size+1) (.cells c1 T1)∧Fix A.L (((w.alloc (.cells c0 T0)).alloc (.cells c1 T1)).alloc (.cells c2 T2)) (w.heap.size+2) (.cells c2 T2):=by
 obtain⟨r,g,f0,f1⟩:=jy hR c0 T0 c1 T1;have k:=Grow.alloc A.L ((w.alloc (.cells c0 T0)).alloc (.cells c1 T1)) (.cells c2 T2);exact⟨r.alloc _,g.trans k,f0.grow k,f1.grow k,eP r.mem.fresh _ (by simp)⟩
theorem jA (hR:aC A D w) (c0:Array Value) (T0:TypeId) (c1:Array Value) (T1:TypeId) (c2:Array Value) (T2:TypeId) (c3:Array Value) (T3:TypeId):aC A D ((((w.alloc (.cells c0 T0)).alloc (.cells c1 T1)).alloc (.cells c2 T2)).alloc (.cells c3 T3))∧Grow A.L w A.L ((((w.alloc (.cells c0 T0)).alloc (.cells c1 T1)).alloc (.cells c2 T2)).alloc (.cells c3 T3))∧Fix A.L ((((w.alloc (.cells c0 T0)).alloc (.cells c1 T1)).alloc (.cells c2 T2)).alloc (.cells c3 T3)) (w.heap.size) (.cells c0 T0)∧Fix A.L ((((w.alloc (.cells c0 T0)).alloc (.cells c1 T1)).alloc (.cells c2 T2)).alloc (.cells c3 T3)) (w.heap.size+1) (.cells c1 T1)∧Fix A.L ((((w.alloc (.cells c0 T0)).alloc (.cells c1 T1)).alloc (.cells c2 T2)).alloc (.cells c3 T3)) (w.heap.size+2) (.cells c2 T2)∧Fix A.L ((((w.alloc (.cells c0 T0)).alloc (.cells c1 T1)).alloc (.cells c2 T2)).alloc (.cells c3 T3)) (w.heap.size+3) (.cells c3 T3):=by
 obtain⟨r,g,f0,f1,f2⟩:=je hR c0 T0 c1 T1 c2 T2;have k:=Grow.alloc A.L (((w.alloc (.cells c0 T0)).alloc (.cells c1 T1)).alloc (.cells c2 T2)) (.cells c3 T3);exact⟨r.alloc _,g.trans k,f0.grow k,f1.grow k,f2.grow k,eP r.mem.fresh _ (by simp)⟩
theorem jB (hR:aC A D w) (c0:Array Value) (T0:TypeId) (c1:Array Value) (T1:TypeId) (c2:Array Value) (T2:TypeId) (c3:Array Value) (T3:TypeId) (c4:Array Value) (T4:TypeId):aC A D (((((w.alloc (.cells c0 T0)).alloc (.cells c1 T1)).alloc (.cells c2 T2)).alloc (.cells c3 T3)).alloc (.cells c4 T4))∧Grow A.L w A.L (((((w.alloc (.cells c0 T0)).alloc (.cells c1 T1)).alloc (.cells c2 T2)).alloc (.cells c3 T3)).alloc (.cells c4 T4))∧Fix A.L (((((w.alloc (.cells c0 T0)).alloc (.cells c1 T1)).alloc (.cells c2 T2)).alloc (.cells c3 T3)).alloc (.cells c4 T4)) (w.heap.size) (.cells c0 T0)∧Fix A.L (((((w.alloc (.cells c0 T0)).alloc (.cells c1 T1)).alloc (.cells c2 T2)).alloc (.cells c3 T3)).alloc (.cells c4 T4)) (w.heap.size+1) (.cells c1 T1)∧Fix A.L (((((w.alloc (.cells c0 T0)).alloc (.cells c1 T1)).alloc (.cells c2 T2)).alloc (.cells c3 T3)).alloc (.cells c4 T4)) (w.heap.size+2) (.cells c2 T2)∧Fix A.L (((((w.alloc (.cells c0 T0)).alloc (.cells c1 T1)).alloc (.cells c2 T2)).alloc (.cells c3 T3)).alloc (.cells c4 T4)) (w.heap.size+3) (.cells c3 T3)∧Fix A.L (((((w.alloc (.cells c0 T0)).alloc (.cells c1 T1)).alloc (.cells c2 T2)).alloc (.cells c3 T3)).alloc (.cells c4 T4)) (w.heap.size+4) (.cells c4 T4):=by
 obtain⟨r,g,f0,f1,f2,f3⟩:=jA hR c0 T0 c1 T1 c2 T2 c3 T3;have k:=Grow.alloc A.L ((((w.alloc (.cells c0 T0)).alloc (.cells c1 T1)).alloc (.cells c2 T2)).alloc (.cells c3 T3)) (.cells c4 T4);exact⟨r.alloc _,g.trans k,f0.grow k,f1.grow k,f2.grow k,f3.grow k,eP r.mem.fresh _ (by simp)⟩
theorem Hy (hR:aC A D w) (c0:Array Value) (T0:TypeId) (c1:Array Value) (T1:TypeId) (c2:Array Value) (T2:TypeId) (c3:Array Value) (T3:TypeId) (c4:Array Value) (T4:TypeId) (c5:Array Value) (T5:TypeId):aC A D ((((((w.alloc (.cells c0 T0)).alloc (.cells c1 T1)).alloc (.cells c2 T2)).alloc (.cells c3 T3)).alloc (.cells c4 T4)).alloc (.cells c5 T5))∧Grow A.L w A.L ((((((w.alloc (.cells c0 T0)).alloc (.cells c1 T1)).alloc (.cells c2 T2)).alloc (.cells c3 T3)).alloc (.cells c4 T4)).alloc (.cells c5 T5))∧Fix A.L ((((((w.alloc (.cells c0 T0)).alloc (.cells c1 T1)).alloc (.cells c2 T2)).alloc (.cells c3 T3)).alloc (.cells c4 T4)).alloc (.cells c5 T5)) (w.heap.size) (.cells c0 T0)∧Fix A.L ((((((w.alloc (.cells c0 T0)).alloc (.cells c1 T1)).alloc (.cells c2 T2)).alloc (.cells c3 T3)).alloc (.cells c4 T4)).alloc (.cells c5 T5)) (w.heap.size+1) (.cells c1 T1)∧Fix A.L ((((((w.alloc (.cells c0 T0)).alloc (.cells c1 T1)).alloc (.cells c2 T2)).alloc (.cells c3 T3)).alloc (.cells c4 T4)).alloc (.cells c5 T5)) (w.heap.size+2) (.cells c2 T2)∧Fix A.L ((((((w.alloc (.cells c0 T0)).alloc (.cells c1 T1)).alloc (.cells c2 T2)).alloc (.cells c3 T3)).alloc (.cells c4 T4)).alloc (.cells c5 T5)) (w.heap.size+3) (.cells c3 T3)∧Fix A.L ((((((w.alloc (.cells c0 T0)).alloc (.cells c1 T1)).alloc (.cells c2 T2)).alloc (.cells c3 T3)).alloc (.cells c4 T4)).alloc (.cells c5 T5)) (w.heap.size+4) (.cells c4 T4)∧Fix A.L ((((((w.alloc (.cells c0 T0)).alloc (.cells c1 T1)).alloc (.cells c2 T2)).alloc (.cells c3 T3)).alloc (.cells c4 T4)).alloc (.cells c5 T5)) (w.heap.size+5) (.cells c5 T5):=by
 obtain⟨r,g,f0,f1,f2,f3,f4⟩:=jB hR c0 T0 c1 T1 c2 T2 c3 T3 c4 T4;have k:=Grow.alloc A.L (((((w.alloc (.cells c0 T0)).alloc (.cells c1 T1)).alloc (.cells c2 T2)).alloc (.cells c3 T3)).alloc (.cells c4 T4)) (.cells c5 T5);exact⟨r.alloc _,g.trans k,f0.grow k,f1.grow k,f2.grow k,f3.grow k,f4.grow k,eP r.mem.fresh _ (by simp)⟩
theorem mX (hR:aC A D w) (s:Nat) (bh:Nat) (h:dJ) (hh:dK (kp A D s) A.L w bh h) (G:Nat):
 zk 201 #[R bh 0,zu G] w (bE A w s (D,.older h G)):=by
 have ae:=zH (jy hR #[R bh 0] 246 #[zu G] 25);have HH:=zH hh;clear hh;clear hR;go_enter Tryz.func201,Tryz.ntmps201;go_wp2;go_ret;obtain⟨r1,r2,f0,f1⟩:=ae.out;exact⟨A,_,rfl,r1,r2,bT.refl _ _,_,_,rfl,⟨_,f0.box,HH.out.grow r2⟩,f1.box⟩
theorem uE (hR:aC A D w) (s:Nat) (bh:Nat) (h:dJ) (hh:dK (kp A D s) A.L w bh h) (G:Nat) (mb:Nat):
 zk 200 #[R bh 0,zu G,I mb] w (bE A w s (D,.ended h G mb)):=by
 have ae:=zH (je hR #[R bh 0] 246 #[zu G] 25 #[I mb] 3);have HH:=zH hh;clear hh;clear hR;go_enter Tryz.func200,Tryz.ntmps200;go_wp2;go_ret;obtain⟨r1,r2,f0,f1,f2⟩:=ae.out;exact⟨A,_,rfl,r1,r2,bT.refl _ _,_,_,_,rfl,⟨_,f0.box,HH.out.grow r2⟩,f1.box,f2.box⟩
theorem I7 (hR:aC A D w) (s:Nat) (bh:Nat) (h:dJ) (hh:dK (kp A D s) A.L w bh h) (G:Nat) (mb:Nat) (id:Nat):
 zk 212 #[R bh 0,zu G,I mb,I id] w (bE A w s (D,.gW h G mb id)):=by
 have ae:=zH (jA hR #[R bh 0] 246 #[zu G] 25 #[I mb] 3 #[I id] 3);have HH:=zH hh;clear hh;clear hR;go_enter Tryz.func212,Tryz.ntmps212;go_wp2;go_ret;obtain⟨r1,r2,f0,f1,f2,f3⟩:=ae.out;exact⟨A,_,rfl,r1,r2,bT.refl _ _,_,_,_,_,rfl,⟨_,f0.box,HH.out.grow r2⟩,f3.box,f1.box,f2.box⟩
theorem CK (hR:aC A D w) (s:Nat):
 zk 96 #[R A.H 0,R (A.bt s) 0,R (A.bc s) 0] w (bE A w s (D,.draw)):=by
 have ae:=zH (je hR #[R A.H 0] 32 #[R (A.bt s) 0] 100 #[R (A.bc s) 0] 105);clear hR;go_enter Tryz.func96,Tryz.ntmps96;go_wp2;go_ret;obtain⟨r1,r2,f0,f1,f2⟩:=ae.out;exact⟨A,_,rfl,r1,r2,bT.refl _ _,_,_,_,rfl,f0.box,f1.box,f2.box⟩
theorem Fp (hR:aC A D w) (s:Nat):
 zk 163 #[R A.H 0,R (A.bt s) 0,R (A.bc s) 0] w (bE A w s (D,.cZ)):=by
 have ae:=zH (je hR #[R A.H 0] 32 #[R (A.bt s) 0] 100 #[R (A.bc s) 0] 105);clear hR;go_enter Tryz.func163,Tryz.ntmps163;go_wp2;go_ret;obtain⟨r1,r2,f0,f1,f2⟩:=ae.out;exact⟨A,_,rfl,r1,r2,bT.refl _ _,_,_,_,rfl,f0.box,f1.box,f2.box⟩
theorem jC (hR:aC A D w) (s:Nat) (er:Nat) (aQ:Nat):
 zk 97 #[R A.H 0,R (A.bt s) 0,R (A.bc s) 0,I er,I aQ] w (bE A w s (D,.abort er aQ)):=by
 have ae:=zH (jB hR #[R A.H 0] 32 #[R (A.bt s) 0] 100 #[R (A.bc s) 0] 105 #[I er] 29 #[I aQ] 3);clear hR;go_enter Tryz.func97,Tryz.ntmps97;go_wp2;go_ret;obtain⟨r1,r2,f0,f1,f2,f3,f4⟩:=ae.out;exact⟨A,_,rfl,r1,r2,bT.refl _ _,_,_,_,_,_,rfl,f0.box,f1.box,f4.box,f2.box,f3.box⟩
theorem zF (hR:aC A D w) (s:Nat) (G:Nat):
 zk 131 #[R A.H 0,R (A.bt s) 0,R (A.bc s) 0,zu G] w (bE A w s (D,.fresh G)):=by
 have ae:=zH (jA hR #[R A.H 0] 32 #[R (A.bt s) 0] 100 #[R (A.bc s) 0] 105 #[zu G] 25);clear hR;go_enter Tryz.func131,Tryz.ntmps131;go_wp2;go_ret;obtain⟨r1,r2,f0,f1,f2,f3⟩:=ae.out;exact⟨A,_,rfl,r1,r2,bT.refl _ _,_,_,_,_,rfl,f0.box,f2.box,f1.box,f3.box⟩
theorem Hz (hR:aC A D w) (s:Nat) (G:Nat):
 zk 132 #[R A.H 0,R (A.bt s) 0,R (A.bc s) 0,zu G] w (bE A w s (D,.own G)):=by
 have ae:=zH (jA hR #[R A.H 0] 32 #[R (A.bt s) 0] 100 #[R (A.bc s) 0] 105 #[zu G] 25);clear hR;go_enter Tryz.func132,Tryz.ntmps132;go_wp2;go_ret;obtain⟨r1,r2,f0,f1,f2,f3⟩:=ae.out;exact⟨A,_,rfl,r1,r2,bT.refl _ _,_,_,_,_,rfl,f0.box,f3.box,f1.box,f2.box⟩
theorem zI (hR:aC A D w) (s:Nat) (G:Nat) (x:Nat):
 zk 156 #[R A.H 0,R (A.bt s) 0,R (A.bc s) 0,zu G,zu x] w (bE A w s (D,.claim G x)):=by
 have ae:=zH (jB hR #[R A.H 0] 32 #[R (A.bt s) 0] 100 #[R (A.bc s) 0] 105 #[zu G] 25 #[zu x] 25);clear hR;go_enter Tryz.func156,Tryz.ntmps156;go_wp2;go_ret;obtain⟨r1,r2,f0,f1,f2,f3,f4⟩:=ae.out;exact⟨A,_,rfl,r1,r2,bT.refl _ _,_,_,_,_,_,rfl,f0.box,f3.box,f4.box,f1.box,f2.box⟩
theorem KH (hR:aC A D w) (s:Nat) (G:Nat) (head:Nat):
 zk 170 #[R A.H 0,R (A.bt s) 0,R (A.bc s) 0,zu G,zu head] w (bE A w s (D,.push G head)):=by
 have ae:=zH (jB hR #[R A.H 0] 32 #[R (A.bt s) 0] 100 #[R (A.bc s) 0] 105 #[zu G] 25 #[zu head] 25);clear hR;go_enter Tryz.func170,Tryz.ntmps170;go_wp2;go_ret;obtain⟨r1,r2,f0,f1,f2,f3,f4⟩:=ae.out;exact⟨A,_,rfl,r1,r2,bT.refl _ _,_,_,_,_,_,rfl,f0.box,f3.box,f4.box,f2.box,f1.box⟩
theorem KI (hR:aC A D w) (s:Nat) (r:oZ) (vp:Value) (hp:(vp=A.aY s∧r.aO=(D.c s).r.aO)∨(vp=.slice none 0 0∧r.aO=[])):
 zk 113 #[R A.H 0,R (A.bc s) 0,.agg #[I r.e,I r.value,vp,I r.over,I r.aQ]] w (bE A w s (D,.fin r)):=by
 have ae:=zH (je hR #[R A.H 0] 32 #[R (A.bc s) 0] 105 #[I r.e,I r.value,vp,I r.over,I r.aQ] 46);have HP:=zH hp;clear hR hp;go_enter Tryz.func113,Tryz.ntmps113;go_wp2;go_ret;obtain⟨r1,r2,f0,f1,f2⟩:=ae.out;exact⟨A,_,rfl,r1,r2,bT.refl _ _,_,_,_,rfl,f0.box,f1.box,_,_,f2,HP.out⟩
theorem jf (hR:aC A D w) (s:Nat) (r:oZ) (re rv ro rr:Int) (vp:Value) (hcs:CJ r vp=[I re,I rv,vp,I ro,I rr]) (hp:(vp=A.aY s∧r.aO=(D.c s).r.aO)∨(vp=.slice none 0 0∧r.aO=[])):
 zk 113 #[R A.H 0,R (A.bc s) 0,.agg #[I re,I rv,vp,I ro,I rr]] w (bE A w s (D,.fin r)):=by
 have h:=KI hR s r vp hp;simp only[CJ,List.cons.injEq,Value.int.injEq,true_and,and_true] at hcs;obtain⟨e1,e2,e3,e4⟩:=hcs;rw[e1,e2,e3,e4] at h;exact h
def Does (A:au) (w:World) (s:Nat) (bB:St) (v:Value):Ending->World->Prop:=fun e E=>
 e=.returned v∧∃ A',aC A' bB E∧Grow A.L w A'.L E∧bT A A' s∧A'.bx=A.bx∧A'.aY=A.aY
theorem Bd {A A':au} {D bB:St} {s:Nat} (st:bT A A' s) (h1:A'.bx=A.bx) (h2:A'.aY=A.aY) (h3:(bB.c s).op.F=(D.c s).op.F) (h4:(bB.c s).r.aO=(D.c s).r.aO):kp A' bB s=kp A D s:=by
 unfold kp;rw[st.H,st.bt,st.bc,h1,h2,h3,h4]
theorem info_parts {P:Program} {t:TypeId} {z:Value} {s b:Nat} (h:(P.info? t).map (fun i=>(i.zero,i.size,i.bytes))=some (some z,s,b)):∃ i,P.info? t=some i∧i.zero=some z∧i.size=s∧i.bytes=b:=by
 cases hi:P.info? t with
 |none=>rw[hi] at h;cases h
 |some i=>
  rw[hi] at h;simp only[Option.map_some,Option.some.injEq,iQ] at h;exact⟨i,rfl,h.1,h.2.1,h.2.2⟩
theorem qw {l:Nat} (h1:1<=l % 131072):((ag l:Nat):Int)=(l:Int) % 131072 - 1:=by unfold ag;omega
theorem nA (hR:aC A D w) (l:Nat) (h1:1<=l % 131072) (h2:l % 131072<=D.aF) (hl:l<18446744073709551616):
 zk 87 #[R A.H 0,zu l] w fun e E=>e=.returned (.pointer (some ⟨A.bv,2*ag l,none⟩))∧w=E:=by
 have c4:w.cell? (J A.H 4)=some (.slice (some (J A.bv 0)) D.aF D.aF):=hR.df 4 rfl;have hu:=Word.pz (l:Int) (by omega) (by omega) w;rw[<-qw h1] at hu;have hi:ag l<D.aF:=by unfold ag;omega
 have hsl:=hR.sl;generalize ag l=i at*;generalize hn:D.aF=n at*;have b1:(i:Int)<(n:Int):=by omega
 have b0:(0:Int)<=(i:Int):=by omega
 have HU:=zH hu;clear hR h1 h2 hl hi hn hu;go_enter Tryz.func87,Tryz.ntmps87;go_wp2_with (go_at_call 107;refine HU.out.mono ?_;rintro e E ⟨rfl,rfl⟩);go_ret;refine⟨?_,rfl⟩
 first|rfl|(simp[Nat.mul_comm];done)
theorem kI.form {p:KP} {L:dE} {w:World} {v:Value} {F:Nat} {t:Qy} (h:kI p L w v F t):∃ f c,v=.func (.func f) #[] c:=by
 cases t
 . obtain⟨b0,b1,b2,b3,e,_⟩:=h;exact⟨_,_,e⟩
 . obtain⟨b0,b1,b2,b3,b4,e,_⟩:=h;exact⟨_,_,e⟩
 . obtain⟨b0,b1,b2,b3,e,_⟩:=h;exact⟨_,_,e⟩
 . obtain⟨b0,b1,b2,b3,b4,e,_⟩:=h;exact⟨_,_,e⟩
theorem tC (hR:aC A D w) (s F at_:Nat) (vt:Value) (thn:Qy) (hv:kI (kp A D s) A.L w vt F thn):
 zk 114 #[R A.H 0,R (A.bt s) 0,I F,zu at_,vt] w (bE A w s (D,.start ⟨F,at_,thn⟩)):=by
 obtain⟨fv,cv,rfl⟩:=hv.form;have ae:=zH (dA hR #[R A.H 0,R (A.bt s) 0,I F,zu at_,.func (.func fv) #[] cv] 248);have HV:=zH hv;clear hR hv;go_enter Tryz.func114,Tryz.ntmps114;go_wp2;go_ret;obtain⟨r1,r2,f0⟩:=ae.out;exact⟨A,_,rfl,r1,r2,bT.refl _ _,_,rfl,_,_,f0,HV.out.grow r2⟩
theorem Tp:(Tryz.prog.info? 250).map (fun i=>(i.zero,i.size,i.bytes))=some (some (.agg #[I 0,zu 0,.bool false]),3,24):=by kernel_rfl
theorem oH (hR:aC A D w) (s:Nat) (t:bL) (ht:D.aj.getD s none=some t) (F G:Nat) (got:Bool) (hn:t.reads.length<1000000):
 zk 116 #[R (A.bt s) 0,I F,zu G,.bool got] w (Does A w s (D.read s F G got) (.tuple #[])):=by
 have c8:w.cell? (J (A.bt s) 8)=some (A.fG s):=hR.fw ht 8 rfl;have z8:=hR.wO ht 8;have hA:=hR.alloc (.cells #[I F,zu G,.bool got] 250);have aU:=hA.mem.all (.reads s);rw[mem_reads ht] at aU;have ho:=aU.1;obtain⟨av,jc,hv,_⟩:=Ow.bN ho;have hst:D.read s F G got=D.bK s {t with reads:=t.reads++[(F,G,got)]}:=by unfold St.read;rw[cK ht]
 rw[hst];have e2:jW (t.reads++[(F,G,got)])=jW t.reads++[I F,zu G,.bool got]:=by simp[jW]
 have hlen:(t.reads++[(F,G,got)]).length=t.reads.length+1:=by simp
 have Vj:0<=(w.alloc (.cells #[I F,zu G,.bool got] 250)).heap.size:=zz _;rw[hv] at c8;have HA:=zH (zA hA (Grow.alloc A.L w (.cells #[I F,zu G,.bool got] 250)));have HT:=zH ht;have HV:=zH hv;have HE:=zH (zA e2 hlen);rw[hv] at ho;clear hR hA ht aU hst hv e2 hlen;generalize hrl:t.reads.length=n at*;have HN:=zH hrl;clear hrl;obtain⟨i0,hi,hz0,hz1,hz2⟩:=info_parts Tp;go_enter Tryz.func116,Tryz.ntmps116;go_wp2_with (at_builtin;refine Ow.eu _ rfl (.tmp 12) (.tmp 17) 117 rfl 0 _ i0 _ 3 24 Tryz.underlying117 hi hz0 hz1 hz2 rfl (by decide) (.slice av n jc) n (jW t.reads) rfl ho (J w.heap.size 0) 1 1 (by omega) [I F,zu G,.bool got] rfl rfl ?c1 (by intro u hu;simp at hu;rcases hu with rfl|rfl|rfl<;>rfl) (by unfold maxLen;omega) (by omega) Vj ?_)
 case c1=>exact Ow.iw w [I F,zu G,.bool got] _ _ rfl
 intro v' w2 hown2 hg2 XR;obtain⟨hA,hG⟩:=HA.out;obtain⟨e2,hlen⟩:=HE.out;obtain⟨a4,cap4,hv4,_⟩:=Ow.bN hown2;have hrow:=hA.NA HT.out (t.reads++[(F,G,got)]) v' (by rw[HV.out];exact hg2) (by rw[e2,hlen];exact hown2) (by rw[HV.out,kr];exact XR);have HO:=zH (zA hrow.1 hrow.2.1);have HV4:=zH hv4;obtain⟨_,_,YO,z82⟩:=hrow;rw[HV.out] at YO;clear hA hG e2 hlen hown2 hg2 XR ho c8 z8 hn Vj;subst hv4;go_wp2_with fail
 go_end0
 obtain⟨r1,r2⟩:=HO.out;exact⟨rfl,_,r1,HA.out.2.trans r2,⟨rfl,rfl,rfl,rfl,rfl,rfl,rfl,rfl,rfl,rfl,rfl,fun _ _=>rfl,fun _ _=>rfl⟩,rfl,rfl⟩
theorem KJ:(Tryz.prog.info? 62).map (fun i=>(i.zero,i.size,i.bytes))=some (some (.agg #[I 0,I 0,zu 0,I 0,I 0,I 0,I 0,I 0,I 0,.slice none 0 0,I 0,I 0]),12,112):=by kernel_rfl
theorem rP {w E:World} {row:Option Nat} (h:w.drew.grownBy E row):w.grownBy E row:=⟨h.os,h.tape,h.output,h.size,h.block⟩
theorem mY (hR:aC A D w) (s:Nat) (e:Ev) (k t n ok oy oh ov re rv ro rr:Int) (a:Option Addr) (pn pc:Nat) (hcs:ng e (.slice a pn pc)=[Value.int .i64 k,I t,zu n,I ok,I oy,I oh,I ov,I re,I rv,.slice a pn pc,I ro,I rr])
 (hp:kW A.L w (.slice a pn pc) (bJ e.res.aO)) (hn:D.aT.length<1000000):
 zk 50 #[R A.H 0,.agg #[Value.int .i64 k,I t,zu n,I ok,I oy,I oh,I ov,I re,I rv,.slice a pn pc,I ro,I rr]] w (Does A w s (D.event e) (.tuple #[])):=by
 obtain⟨h1,g1,_⟩:=dA hR #[Value.int .i64 k,I t,zu n,I ok,I oy,I oh,I ov,I re,I rv,.slice a pn pc,I ro,I rr] 62;have c24:(w.alloc (.cells #[Value.int .i64 k,I t,zu n,I ok,I oy,I oh,I ov,I re,I rv,.slice a pn pc,I ro,I rr] 62)).cell? (J A.H 24)=some A.jF:=h1.df 24 rfl;obtain⟨h2,g2,_,_⟩:=jy hR #[Value.int .i64 k,I t,zu n,I ok,I oy,I oh,I ov,I re,I rv,.slice a pn pc,I ro,I rr] 62 #[Value.int .i64 k,I t,zu n,I ok,I oy,I oh,I ov,I re,I rv,.slice a pn pc,I ro,I rr] 62;have hd:aC A D ((w.alloc (.cells #[Value.int .i64 k,I t,zu n,I ok,I oy,I oh,I ov,I re,I rv,.slice a pn pc,I ro,I rr] 62)).alloc (.cells #[Value.int .i64 k,I t,zu n,I ok,I oy,I oh,I ov,I re,I rv,.slice a pn pc,I ro,I rr] 62)):=h2;have NN:((w.alloc (.cells #[Value.int .i64 k,I t,zu n,I ok,I oy,I oh,I ov,I re,I rv,.slice a pn pc,I ro,I rr] 62)).alloc (.cells #[Value.int .i64 k,I t,zu n,I ok,I oy,I oh,I ov,I re,I rv,.slice a pn pc,I ro,I rr] 62)).cell? (J A.H 24)=some A.jF:=h2.df 24 rfl;have aU:=(hd.mem.all .aT).1;obtain⟨av,jc,hv,_⟩:=Ow.bN aU;rw[hv] at c24 NN aU;have ae:∀ v' w2,w2.ownsRow 0 62 12 v' (D.aT.length+1) (A.gL++[Value.int .i64 k,I t,zu n,I ok,I oy,I oh,I ov,I re,I rv,.slice a pn pc,I ro,I rr])->((w.alloc (.cells #[Value.int .i64 k,I t,zu n,I ok,I oy,I oh,I ov,I re,I rv,.slice a pn pc,I ro,I rr] 62)).alloc (.cells #[Value.int .i64 k,I t,zu n,I ok,I oy,I oh,I ov,I re,I rv,.slice a pn pc,I ro,I rr] 62)).grownBy w2 A.jF.ownBlock->(v'.ownBlock=A.jF.ownBlock∨∀ g,v'.ownBlock=some g->((w.alloc (.cells #[Value.int .i64 k,I t,zu n,I ok,I oy,I oh,I ov,I re,I rv,.slice a pn pc,I ro,I rr] 62)).alloc (.cells #[Value.int .i64 k,I t,zu n,I ok,I oy,I oh,I ov,I re,I rv,.slice a pn pc,I ro,I rr] 62)).heap.size<=g)->
  (∃ A',aC A' (D.event e) (w2.setCell (J A.H 24) v')∧Grow A.L w A'.L (w2.setCell (J A.H 24) v')∧bT A A' s∧A'.bx=A.bx∧A'.aY=A.aY)∧w2.cell? (J A.H 24)=some A.jF∧w2.frozen? (J A.H 24)=false:=by
  intro v' w2 q1 q2 q3;obtain⟨r1,r2,r3,r4⟩:=hd.NC e _ v' (hp.grow g2) q2 (by rw[hcs];exact q1) q3;exact⟨⟨_,r1,g2.trans r2,⟨rfl,rfl,rfl,rfl,rfl,rfl,rfl,rfl,rfl,rfl,rfl,fun _ _=>rfl,fun _ _=>rfl⟩,rfl,rfl⟩,r3,r4⟩
 have hos:=kr (w.alloc (.cells #[Value.int .i64 k,I t,zu n,I ok,I oy,I oh,I ov,I re,I rv,.slice a pn pc,I ro,I rr] 62)) (.cells #[Value.int .i64 k,I t,zu n,I ok,I oy,I oh,I ov,I re,I rv,.slice a pn pc,I ro,I rr] 62);rw[kr] at hos;rw[hv] at ae;have HF:=zH ae;have HO:=zH aU;have HS:=zH hos;obtain⟨i0,hi,hz0,hz1,hz2⟩:=info_parts KJ;clear hR h1 g1 h2 g2 hd hv hp hcs ae aU hos;generalize A.gL=xs at*;generalize D.aT.length=len at*;go_enter Tryz.func50,Tryz.ntmps50;go_wp2_with fail
 go_region_law (first|(refine Ow.mP _ (.tmp 8) (.tmp 10) 52 rfl 0 _ i0 _ 12 112 Tryz.underlying52 hi hz0 hz1 hz2 rfl (by decide) (.slice av len jc) len xs rfl HO.out ⟨w.heap.size+1,0,none⟩ 1 1 (by omega) [Value.int .i64 k,I t,zu n,I ok,I oy,I oh,I ov,I re,I rv,.slice a pn pc,I ro,I rr] rfl rfl (by intro j u hu;exact Ow.iw (w.alloc (.cells #[Value.int .i64 k,I t,zu n,I ok,I oy,I oh,I ov,I re,I rv,.slice a pn pc,I ro,I rr] 62)) [Value.int .i64 k,I t,zu n,I ok,I oy,I oh,I ov,I re,I rv,.slice a pn pc,I ro,I rr] _ _ (kr _ _).symm j u hu) (by intro u hu;simp at hu;rcases hu with rfl|rfl|rfl|rfl|rfl|rfl|rfl|rfl|rfl|rfl|rfl|rfl<;>rfl) (by unfold maxLen;omega) (by omega) (zz _) ?_;intro v' w2 q1 q2 q3;obtain⟨r1,r2,r3⟩:=HF.out v' w2 q1 (rP q2) q3;obtain⟨a4,cap4,rfl,_⟩:=Ow.bN q1;have R1:=zH r1;clear r1 q1 q2 q3))
 all_goals (go_end0;exact⟨rfl,R1.out⟩)
theorem KL {x:Nat} (h1:x<=1099511627776):rd x=(1,x):=aV h1
theorem CL:rd 2305843009213693952=(3,0):=by decide
theorem qx {x:Nat} (h3:4611686018427387904<x∧x<=4611686018427453439):rd x=(2,x - 4611686018427387904):=by
 unfold rd tm ever oo;rw[aR (by omega),aR (by omega),aV (by omega)]
theorem H9 {x:Nat} (h1:¬ x<=1099511627776) (h2:¬ x=2305843009213693952) (h3:¬ (4611686018427387904<x∧x<=4611686018427453439)):rd x=(0,0):=by
 unfold rd tm ever oo;rw[aR (by omega),aR (by omega),aR (by omega)]
theorem Ia (x:Nat):Word.Vh (x:Int)=((rd x).1:Int)∧Word.Vi (x:Int)=((rd x).2:Int):=by
 unfold Word.Vh Word.Vi
 by_cases h1:x<=1099511627776
 . have i1:(x:Int)<=1099511627776:=by omega
   rw[KL h1];simp only[aV i1];exact⟨rfl,trivial⟩
 . have i1:¬ (x:Int)<=1099511627776:=by omega
   by_cases h2:x=2305843009213693952
   . subst h2
     rw[CL];exact⟨by decide,by decide⟩
   . have i2:¬ (x:Int)=2305843009213693952:=by omega
     by_cases h3:4611686018427387904<x∧x<=4611686018427453439
     . have i3:4611686018427387904<(x:Int)∧(x:Int)<=4611686018427453439:=by omega
       rw[qx h3];simp only[aR i1,aR i2,aV i3];exact⟨rfl,by omega⟩
     . have i3:¬ (4611686018427387904<(x:Int)∧(x:Int)<=4611686018427453439):=by omega
       rw[H9 h1 h2 h3];simp only[aR i1,aR i2,aR i3];exact⟨rfl,rfl⟩
theorem wS (x:Nat) (hx:x<18446744073709551616):(rd x).1<=3∧((rd x).1=2->(rd x).2<=65535)∧(rd x).2<18446744073709551616:=by
 by_cases h1:x<=1099511627776
 . rw[KL h1];exact⟨by simp only;omega,by simp only;omega,hx⟩
 . by_cases h2:x=2305843009213693952
   . subst h2;rw[CL];exact⟨by decide,by decide,by decide⟩
   . by_cases h3:4611686018427387904<x∧x<=4611686018427453439
     . rw[qx h3];exact⟨by simp only;omega,by simp only;omega,by simp only;omega⟩
     . rw[H9 h1 h2 h3];exact⟨by simp only;omega,by simp only;omega,by simp only;omega⟩
theorem rQ (x:Nat) (hx:x<18446744073709551616) (w:World):zk 108 #[zu x] w fun e E=>e=.returned (.agg #[I ((rd x).1:Int),zu ((rd x).2:Int)])∧Below w.heap.size w E:=by
 have h:=Word.oH (x:Int) (by omega) (by omega) w;rw[(Ia x).1,(Ia x).2] at h;exact h
theorem Fix.cell {L:dE} {w:World} {b:Nat} {cs:Array Value} {T:TypeId} (h:Fix L w b (.cells cs T)) (i:Nat) {v:Value} (hv:cs[i]? =some v):w.cell? (J b i)=some v:=by rw[cell_of_row w b i _ _ _ h.2];exact hv
theorem I8 (hR:aC A D w) (s:Nat) (t:bL) (ht:D.aj.getD s none=some t) (bh:Nat) (hu:dJ) (hh:dK (kp A D s) A.L w bh hu) (G x:Nat) (hx:x<18446744073709551616):
 zk 183 #[R bh 0,zu G,zu x] w (bE A w s (D,D.kG s hu G x)):=by
 obtain⟨hk3,hk2,hnb⟩:=wS x hx;have hrd:=rQ x hx;obtain⟨r1,g1,f0,f1⟩:=jy hR #[R bh 0] 246 #[zu G] 25;have hid:(D.t s).id=t.id:=by rw[cK ht]
 unfold St.kG;rw[hid];generalize hK:(rd x).1=k at*;generalize hN:(rd x).2=n at*;have tF:=hh.grow g1;have HR:=zH (zA r1 g1);have HX:=zH hrd;have HF:=zH (zA f0 (zA f1 tF));have HT:=zH ht;clear r1 g1 f0 f1 tF hh hR hrd ht hx hK hN hid
 by_cases k1:k=1
 . subst k1
   clear hk3 hk2
   by_cases hn:n<=hu.at_
   . rw[aV ⟨rfl,hn⟩]
     have d1:decide ((n:Int)<=(hu.at_:Int))=true:=by simpa using hn
     have d2:decide (n<=hu.at_)=true:=by simpa using hn
     clear hn hnb;go_enter Tryz.func183,Tryz.ntmps183;go_wp2_with (go_at_call 108;refine (HX.out _).mono ?_;rintro e w2 ⟨rfl,hq⟩);obtain⟨r1,g1⟩:=HR.out;obtain⟨f0,f1,tF⟩:=HF.out;obtain⟨r3,g3,f2⟩:=dA (r1.below hq) #[I 1,zu n] 217;have gq:=(Grow.below (L:=A.L) hq).trans g3;have F0:=f0.grow gq;have F1:=f1.grow gq;have hh3:=tF.grow gq;have c0:=F0.cell 0 rfl;have c1:=F1.cell 0 rfl;have s0:=f2.cell 0 rfl;have s1:=f2.cell 1 rfl;obtain⟨vt,NP,fh,hth⟩:=hh3;have h0:(w2.alloc (.cells #[I 1,zu n] 217)).cell? (J bh 1)=zs (A.bt s) 0:=fh.cell 1 rfl;have h3:=fh.cell 3 (v:=zu hu.at_) rfl;have t0:(w2.alloc (.cells #[I 1,zu n] 217)).cell? (J (A.bt s) 0)=zt t.id:=r3.fw HT.out 0 rfl;have GG:=zH (zA r3 (zA (g1.trans gq) (zA F0 (zA F1 (show dK (kp A D s) A.L _ bh hu from ⟨vt,NP,fh,hth⟩)))));clear r1 g1 f0 f1 tF r3 g3 gq F0 F1 f2 fh hth hq;generalize w2.heap.size=b2 at*;generalize w2.alloc (.cells #[I 1,zu n] 217)=w3 at*
     go_quiet (fail)
     go_wp2_with (go_at_call 200;refine (uE (GG.out.1.drewN _) s bh hu (GG.out.2.2.2.2.grow (Grow.drewN _ _ _)) G 0).mono ?_;rintro e w4 ⟨A',v,rfl,q1,q2,q3,q4⟩);go_ret;exact⟨A',v,rfl,q1,(GG.out.2.1.trans (Grow.drewN _ _ _)).trans q2,q3,q4⟩
   . rw[aR (fun e=>hn e.2),aV (Or.inl (by omega))]
     have d1:decide ((n:Int)<=(hu.at_:Int))=false:=by simpa using hn
     have d2:decide (n<=hu.at_)=false:=by simpa using hn
     clear hn hnb;go_enter Tryz.func183,Tryz.ntmps183;go_wp2_with (go_at_call 108;refine (HX.out _).mono ?_;rintro e w2 ⟨rfl,hq⟩);obtain⟨r1,g1⟩:=HR.out;obtain⟨f0,f1,tF⟩:=HF.out;obtain⟨r3,g3,f2⟩:=dA (r1.below hq) #[I 1,zu n] 217;have gq:=(Grow.below (L:=A.L) hq).trans g3;have F0:=f0.grow gq;have F1:=f1.grow gq;have hh3:=tF.grow gq;have c0:=F0.cell 0 rfl;have c1:=F1.cell 0 rfl;have s0:=f2.cell 0 rfl;have s1:=f2.cell 1 rfl;obtain⟨vt,NP,fh,hth⟩:=hh3;have h0:(w2.alloc (.cells #[I 1,zu n] 217)).cell? (J bh 1)=zs (A.bt s) 0:=fh.cell 1 rfl;have h3:=fh.cell 3 (v:=zu hu.at_) rfl;have t0:(w2.alloc (.cells #[I 1,zu n] 217)).cell? (J (A.bt s) 0)=zt t.id:=r3.fw HT.out 0 rfl;have GG:=zH (zA r3 (zA (g1.trans gq) (zA F0 (zA F1 (show dK (kp A D s) A.L _ bh hu from ⟨vt,NP,fh,hth⟩)))));clear r1 g1 f0 f1 tF r3 g3 gq F0 F1 f2 fh hth hq;generalize w2.heap.size=b2 at*;generalize w2.alloc (.cells #[I 1,zu n] 217)=w3 at*
     go_quiet (fail)
     go_wp2_with fail
     go_quiet (fail)
     go_wp2_with fail;go_wp2_with (go_at_call 201;refine (mX (GG.out.1.drewN _) s bh hu (GG.out.2.2.2.2.grow (Grow.drewN _ _ _)) G).mono ?_;rintro e w4 ⟨A',v,rfl,q1,q2,q3,q4⟩);go_ret;exact⟨A',v,rfl,q1,(GG.out.2.1.trans (Grow.drewN _ _ _)).trans q2,q3,q4⟩
 . by_cases k2:k=2
   . subst k2
     have QI:=hk2 rfl;rw[aR (by omega)];have ew:IntKind.i64.wrap (n:Int)=(n:Int):=by rw[jG];omega
     clear hk3 hk2 k1 hnb
     by_cases hn:n=t.id
     . rw[aV (Or.inr hn)]
       have d1:((n:Int)==(t.id:Int))=true:=by simp;omega
       have d2:((n:Int)=(t.id:Int))=True:=by simp;omega
       clear hn QI;go_enter Tryz.func183,Tryz.ntmps183;go_wp2_with (go_at_call 108;refine (HX.out _).mono ?_;rintro e w2 ⟨rfl,hq⟩);obtain⟨r1,g1⟩:=HR.out;obtain⟨f0,f1,tF⟩:=HF.out;obtain⟨r3,g3,f2⟩:=dA (r1.below hq) #[I 2,zu n] 217;have gq:=(Grow.below (L:=A.L) hq).trans g3;have F0:=f0.grow gq;have F1:=f1.grow gq;have hh3:=tF.grow gq;have c0:=F0.cell 0 rfl;have c1:=F1.cell 0 rfl;have s0:=f2.cell 0 rfl;have s1:=f2.cell 1 rfl;obtain⟨vt,NP,fh,hth⟩:=hh3;have h0:(w2.alloc (.cells #[I 2,zu n] 217)).cell? (J bh 1)=zs (A.bt s) 0:=fh.cell 1 rfl;have h3:=fh.cell 3 (v:=zu hu.at_) rfl;have t0:(w2.alloc (.cells #[I 2,zu n] 217)).cell? (J (A.bt s) 0)=zt t.id:=r3.fw HT.out 0 rfl;have GG:=zH (zA r3 (zA (g1.trans gq) (zA F0 (zA F1 (show dK (kp A D s) A.L _ bh hu from ⟨vt,NP,fh,hth⟩)))));clear r1 g1 f0 f1 tF r3 g3 gq F0 F1 f2 fh hth hq;generalize w2.heap.size=b2 at*;generalize w2.alloc (.cells #[I 2,zu n] 217)=w3 at*
       go_quiet (fail)
       go_wp2_with fail
       go_quiet (fail)
       go_wp2_with (go_at_call 201;refine (mX (GG.out.1.drewN _) s bh hu (GG.out.2.2.2.2.grow (Grow.drewN _ _ _)) G).mono ?_;rintro e w4 ⟨A',v,rfl,q1,q2,q3,q4⟩);go_ret;exact⟨A',v,rfl,q1,(GG.out.2.1.trans (Grow.drewN _ _ _)).trans q2,q3,q4⟩
     . rw[aR (by omega)]
       have d1:((n:Int)==(t.id:Int))=false:=by simp;omega
       have d2:((n:Int)=(t.id:Int))=False:=by simp;omega
       clear hn QI;go_enter Tryz.func183,Tryz.ntmps183;go_wp2_with (go_at_call 108;refine (HX.out _).mono ?_;rintro e w2 ⟨rfl,hq⟩);obtain⟨r1,g1⟩:=HR.out;obtain⟨f0,f1,tF⟩:=HF.out;obtain⟨r3,g3,f2⟩:=dA (r1.below hq) #[I 2,zu n] 217;have gq:=(Grow.below (L:=A.L) hq).trans g3;have F0:=f0.grow gq;have F1:=f1.grow gq;have hh3:=tF.grow gq;have c0:=F0.cell 0 rfl;have c1:=F1.cell 0 rfl;have s0:=f2.cell 0 rfl;have s1:=f2.cell 1 rfl;obtain⟨vt,NP,fh,hth⟩:=hh3;have h0:(w2.alloc (.cells #[I 2,zu n] 217)).cell? (J bh 1)=zs (A.bt s) 0:=fh.cell 1 rfl;have h3:=fh.cell 3 (v:=zu hu.at_) rfl;have t0:(w2.alloc (.cells #[I 2,zu n] 217)).cell? (J (A.bt s) 0)=zt t.id:=r3.fw HT.out 0 rfl;have GG:=zH (zA r3 (zA (g1.trans gq) (zA F0 (zA F1 (show dK (kp A D s) A.L _ bh hu from ⟨vt,NP,fh,hth⟩)))));clear r1 g1 f0 f1 tF r3 g3 gq F0 F1 f2 fh hth hq;generalize w2.heap.size=b2 at*;generalize w2.alloc (.cells #[I 2,zu n] 217)=w3 at*;have GA:∀ q,aC A D (w3.drewN q)∧Grow A.L w A.L (w3.drewN q)∧Fix A.L (w3.drewN q) w.heap.size (.cells #[R bh 0] 246)∧Fix A.L (w3.drewN q) (w.heap.size+1) (.cells #[zu G] 25)∧dK (kp A D s) A.L (w3.drewN q) bh hu:=fun q=>
        ⟨GG.out.1.drewN q,GG.out.2.1.trans (Grow.drewN _ _ q),GG.out.2.2.1.grow (Grow.drewN _ _ q),GG.out.2.2.2.1.grow (Grow.drewN _ _ q),GG.out.2.2.2.2.grow (Grow.drewN _ _ q)⟩
       have HA:=zH GA;clear GA
       go_quiet (fail)
       go_wp2_with fail
       go_quiet (fail)
       generalize hw:(w3.drewN _).drewN _=w5;have GB:aC A D w5∧Grow A.L w A.L w5∧Fix A.L w5 w.heap.size (.cells #[R bh 0] 246)∧Fix A.L w5 (w.heap.size+1) (.cells #[zu G] 25)∧dK (kp A D s) A.L w5 bh hu:=by
        rw[<-hw];obtain⟨p1,p2,p3,p4,p5⟩:=HA.out _;exact⟨p1.drewN _,p2.trans (Grow.drewN _ _ _),p3.grow (Grow.drewN _ _ _),p4.grow (Grow.drewN _ _ _),p5.grow (Grow.drewN _ _ _)⟩
       have s15:w5.cell? (J b2 1)=zv n:=by rw[<-hw];exact s1
       have HM:=zH (dA GB.1 #[I n] 3);have HB:=zH GB;clear GB hw;go_wp2_with fail;go_ret;obtain⟨m1,m2,m3⟩:=HM.out;obtain⟨_,p2,p3,p4,p5⟩:=HB.out;exact⟨A,_,rfl,m1,p2.trans m2,bT.refl _ _,_,_,_,rfl,⟨_,(p3.grow m2).box,p5.grow m2⟩,m3.box,(p4.grow m2).box⟩
   . rw[aR (fun e=>k1 e.1),aV (Or.inl k2)]
     have d1:((k:Int)==1)=false:=by simp;omega
     have d2:((k:Int)=1)=False:=by simp;omega
     have d3:((k:Int)==2)=false:=by simp;omega
     have d4:((k:Int)=2)=False:=by simp;omega
     have d5:((k:Int) !=2)=true:=by simp;omega
     clear k1 k2 hk2 hk3 hnb;go_enter Tryz.func183,Tryz.ntmps183;go_wp2_with (go_at_call 108;refine (HX.out _).mono ?_;rintro e w2 ⟨rfl,hq⟩);obtain⟨r1,g1⟩:=HR.out;obtain⟨f0,f1,tF⟩:=HF.out;obtain⟨r3,g3,f2⟩:=dA (r1.below hq) #[I k,zu n] 217;have gq:=(Grow.below (L:=A.L) hq).trans g3;have F0:=f0.grow gq;have F1:=f1.grow gq;have hh3:=tF.grow gq;have c0:=F0.cell 0 rfl;have c1:=F1.cell 0 rfl;have s0:=f2.cell 0 rfl;have s1:=f2.cell 1 rfl;obtain⟨vt,NP,fh,hth⟩:=hh3;have h0:(w2.alloc (.cells #[I k,zu n] 217)).cell? (J bh 1)=zs (A.bt s) 0:=fh.cell 1 rfl;have h3:=fh.cell 3 (v:=zu hu.at_) rfl;have t0:(w2.alloc (.cells #[I k,zu n] 217)).cell? (J (A.bt s) 0)=zt t.id:=r3.fw HT.out 0 rfl;have GG:=zH (zA r3 (zA (g1.trans gq) (zA F0 (zA F1 (show dK (kp A D s) A.L _ bh hu from ⟨vt,NP,fh,hth⟩)))));clear r1 g1 f0 f1 tF r3 g3 gq F0 F1 f2 fh hth hq;generalize w2.heap.size=b2 at*;generalize w2.alloc (.cells #[I k,zu n] 217)=w3 at*
     go_quiet (fail)
     go_wp2_with fail
     go_quiet (fail)
     go_wp2_with (go_at_call 201;refine (mX (GG.out.1.drewN _) s bh hu (GG.out.2.2.2.2.grow (Grow.drewN _ _ _)) G).mono ?_;rintro e w4 ⟨A',v,rfl,q1,q2,q3,q4⟩);go_ret;exact⟨A',v,rfl,q1,(GG.out.2.1.trans (Grow.drewN _ _ _)).trans q2,q3,q4⟩
def NQ (f:Nat->Nat) (p:Nat×Nat):MapEntry:=⟨I p.1,ptr (f p.1),p.2⟩
theorem qy (f:Nat->Nat) (F:Nat):∀ (l:List (Nat×Nat)) (i:Nat),Instr.findNow (.int .i64) (I F) (l.map (NQ f)) i=some none∧(∀ p∈l,p.1≠F)∨
 ∃ j,Instr.findNow (.int .i64) (I F) (l.map (NQ f)) i=some (some (j,ptr (f F)))∧∃ p∈l,p.1=F
 |[],i=>.inl ⟨rfl,by simp⟩
 |p::l,i=>by
  by_cases h:p.1=F
  . right
    refine⟨i,?_,p,by simp,h⟩;rw[List.map_cons];unfold Instr.findNow;simp[NQ,Instr.sameNow,h]
  . rcases qy f F l (i+1) with ⟨h1,h2⟩|⟨j,h1,q,hq,Z⟩
    . left
      refine⟨?_,fun q hq=>(List.mem_cons.1 hq).elim (fun e=>e ▸ h) (h2 q)⟩;rw[List.map_cons];unfold Instr.findNow;have hne:((F:Int)==(p.1:Int))=false:=by simp;omega
      simp[NQ,Instr.sameNow,hne];exact h1
    . right
      refine⟨j,?_,q,by simp[hq],Z⟩;rw[List.map_cons];unfold Instr.findNow;have hne:((F:Int)==(p.1:Int))=false:=by simp;omega
      simp[NQ,Instr.sameNow,hne];exact h1
theorem zJ (A:au) (s:Nat) (t:bL):gY A s t=(t.cells.reverse.zipIdx.map fun p=>(p.1.1,p.2)).map (NQ (A.bx s)):=by
 unfold gY;rw[List.map_map];rfl
theorem Fq {l:List (Nat×kP)} {F:Nat} {x:kP} (h:l.lookup F=some x):(F,x)∈l:=by
 induction l with
 |nil=>cases h
 |cons a l ih=>
  obtain⟨k,y⟩:=a;rw[List.lookup_cons] at h
  by_cases Z:F=k
  . subst Z
    simp at h;subst h;simp
  . rw[beq_false_of_ne Z] at h
    exact qg _ (ih h)
theorem uF (t:bL) (F:Nat):(∃ p∈(t.cells.reverse.zipIdx.map fun p=>(p.1.1,p.2)),p.1=F)↔(t.cell F).isSome=true:=by
 constructor
 . rintro ⟨p,hp,Z⟩
   obtain⟨q,hq,rfl⟩:=List.mem_map.1 hp;have h1:=List.mem_reverse.1 (List.fst_mem_of_mem_zipIdx hq)
   cases hc:t.cell F with
   |some x=>rfl
   |none=>exact absurd Z (qo hc _ h1)
 . intro h
   cases hc:t.cell F with
   |none=>rw[hc] at h;cases h
   |some x=>
    have h1:(F,x)∈t.cells:=by
     unfold bL.cell at hc;exact Fq hc
    obtain⟨i,hi⟩:=List.getElem?_of_mem (List.mem_reverse.2 h1);refine⟨(F,i),List.mem_map.2 ⟨((F,x),i),?_,rfl⟩,rfl⟩;rw[List.mem_zipIdx_iff_getElem?];exact hi
def au.px (A:au) (s:Nat) (t:bL) (F:Nat):Value:=if (t.cell F).isSome then ptr (A.bx s F) else .pointer none
theorem fZ (hR:aC A D w) {s:Nat} {t:bL} (ht:D.aj.getD s none=some t) (F:Nat):
 (Instr.lookup 116 (.map (some (A.bm s))) (I F) false).run Tryz.prog w=.ok (A.px s t F) w:=by
 have hb:=hR.map ht;have hz:(zeroValue 223).run Tryz.prog w=.ok (.pointer none) w:=by kernel_rfl
 have hck:∀ e,(Instr.checkKey e 10000 3 (I F)).run Tryz.prog w=.ok () w:=by
  intro e;unfold Instr.checkKey;simp[run_underlying Tryz.underlying3]
 rw[zJ] at hb
 rcases qy (A.bx s) F (t.cells.reverse.zipIdx.map fun p=>(p.1.1,p.2)) 0 with ⟨h1,h2⟩|⟨j,h1,h2⟩
 . have e:A.px s t F=.pointer none:=by
    unfold au.px;rw[aR];intro h;obtain⟨p,hp,Z⟩:=(uF t F).2 h;exact h2 p hp Z
   rw[e];clear h2 e;generalize (t.cells.reverse.zipIdx.map fun p=>(p.1.1,p.2)).map (NQ (A.bx s))=es at*;simp[Instr.lookup,run_underlying Tryz.underlying116,run_underlying Tryz.underlying3,MapKept.run_getObj_map hb,hck,Instr.findKey,h1,hz,Result.andThen]
 . have e:A.px s t F=ptr (A.bx s F):=by
    unfold au.px;rw[aV ((uF t F).1 h2)]
   rw[e];clear h2 e;generalize (t.cells.reverse.zipIdx.map fun p=>(p.1.1,p.2)).map (NQ (A.bx s))=es at*;simp[Instr.lookup,run_underlying Tryz.underlying116,run_underlying Tryz.underlying3,MapKept.run_getObj_map hb,hck,Instr.findKey,h1,Result.andThen]
theorem I9 (hR:aC A D w) (s:Nat) (t:bL) (ht:D.aj.getD s none=some t) (F G:Nat) (got:Bool):
 zk 143 #[R (A.bt s) 0,.agg #[I F,zu G,.bool got]] w fun e E=>e=.returned (.bool (t.needs (F,G,got)))∧Below w.heap.size w E:=by
 obtain⟨r1,g1,f0⟩:=dA hR #[I F,zu G,.bool got] 250;have hbl:Below w.heap.size w (w.alloc (.cells #[I F,zu G,.bool got] 250)):=(Below.refl _ _).alloc (zr _) _;have c0:=f0.cell 0 (v:=I F) rfl;have c2:=f0.cell 2 (v:=.bool got) rfl;have t7:=r1.fw ht 7 (v:=.map (some (A.bm s))) rfl;have t1:=r1.fw ht 1 (v:=I t.az) rfl;have hlk:∀ n,(Instr.lookup 116 (.map (some (A.bm s))) (I F) false).run Tryz.prog ((w.alloc (.cells #[I F,zu G,.bool got] 250)).drewN n)=.ok (A.px s t F) ((w.alloc (.cells #[I F,zu G,.bool got] 250)).drewN n):=fun n=>fZ (r1.drewN n) ht F
 have Kj:=zH hbl;clear hR ht r1 g1 f0 hbl;unfold bL.needs;unfold au.px at hlk;generalize t.az=lv at*
 by_cases hx:(t.cell F).isSome=true
 . rw[aV hx] at hlk
   have hnone:(t.cell F).isNone=false:=by cases h:t.cell F<;>simp[h] at hx ⊢
   have HN:=zH hnone;clear hx hnone;go_enter Tryz.func143,Tryz.ntmps143;go_wp2_with fail;generalize w.alloc (.cells #[I F,zu G,.bool got] 250)=w2 at*
   go_quiet (fail)
   go_wp2_with fail;go_ret;exact⟨by simp[HN.out],Kj.out.trans ⟨rfl,rfl,rfl,zr _,fun _ _=>rfl⟩⟩
 . rw[aR hx] at hlk
   have hnone:(t.cell F).isNone=true:=by cases h:t.cell F<;>simp[h] at hx ⊢
   have HN:=zH hnone;clear hx hnone
   by_cases h3:lv=3
   . have H3:=zH h3
     have a3:((lv:Int)==3)=true:=by simp;omega
     have b3:((lv:Int)=3)=True:=by simp;omega
     clear h3;go_enter Tryz.func143,Tryz.ntmps143;go_wp2_with fail;generalize w.alloc (.cells #[I F,zu G,.bool got] 250)=w2 at*
     go_quiet (fail)
     go_wp2_with fail;go_ret;exact⟨by simp[HN.out,H3.out],Kj.out.trans ⟨rfl,rfl,rfl,zr _,fun _ _=>rfl⟩⟩
   . by_cases h2:lv=2
     . have H3:=zH h2
       have a3:((lv:Int)==3)=false:=by simp;omega
       have b3:((lv:Int)=3)=False:=by simp;omega
       have a2:((lv:Int)==2)=true:=by simp;omega
       have b2:((lv:Int)=2)=True:=by simp;omega
       clear h3 h2;go_enter Tryz.func143,Tryz.ntmps143;go_wp2_with fail;generalize w.alloc (.cells #[I F,zu G,.bool got] 250)=w2 at*
       go_quiet (fail)
       go_wp2_with fail;go_ret;exact⟨by simp[HN.out,H3.out],Kj.out.trans ⟨rfl,rfl,rfl,zr _,fun _ _=>rfl⟩⟩
     . have H3:=zH (zA h3 h2)
       have a3:((lv:Int)==3)=false:=by simp;omega
       have b3:((lv:Int)=3)=False:=by simp;omega
       have a2:((lv:Int)==2)=false:=by simp;omega
       have b2:((lv:Int)=2)=False:=by simp;omega
       clear h3 h2;go_enter Tryz.func143,Tryz.ntmps143;go_wp2_with fail;generalize w.alloc (.cells #[I F,zu G,.bool got] 250)=w2 at*
       go_quiet (fail)
       go_wp2_with fail;go_ret;exact⟨by simp[HN.out,H3.out.1,H3.out.2],Kj.out.trans ⟨rfl,rfl,rfl,zr _,fun _ _=>rfl⟩⟩
theorem qz (hR:aC A D w) (s:Nat) (t:bL) (ht:D.aj.getD s none=some t) (h1:1<=t.id) (h2:t.id<=65535):
 zk 126 #[R (A.bt s) 0] w fun e E=>e=.returned (zu ((mine t:Nat):Int))∧w=E:=by
 have c0:w.cell? (J (A.bt s) 0)=zt t.id:=hR.fw ht 0 rfl;have e:((mine t:Nat):Int)=4611686018427387904+(t.id:Int):=by unfold mine oo;omega
 have hw:=Word.NL (t.id:Int) (by omega) (by omega) w;rw[e];have HW:=zH hw;clear hR ht h1 h2 e hw;go_enter Tryz.func126,Tryz.ntmps126;go_wp2_with (go_at_call 148;refine HW.out.mono ?_;rintro e E ⟨rfl,rfl⟩);go_ret;exact⟨rfl,rfl⟩
theorem CO (hR:aC A D w) (s:Nat) (t:bL) (ht:D.aj.getD s none=some t) (i:Nat):
 zk 144 #[R A.H 0,R (A.bt s) 0,R (A.bc s) 0,I i] w (bE A w s (D,jJ t i)):=by
 obtain⟨r4,g4,f0,f1,f2,f3⟩:=jA hR #[R A.H 0] 32 #[R (A.bt s) 0] 100 #[R (A.bc s) 0] 105 #[I i] 3;have c0:=f0.cell 0 (v:=R A.H 0) rfl;have c1:=f1.cell 0 (v:=R (A.bt s) 0) rfl;have c2:=f2.cell 0 (v:=R (A.bc s) 0) rfl;have c3:=f3.cell 0 (v:=I i) rfl;have t9:=r4.fw ht 9 (v:=A.dY s) rfl;have aU:=(r4.mem.all (.aP s))
 rw[mV ht] at aU;obtain⟨av,jc,hv,_⟩:=Ow.bN aU.1;rw[hv] at t9;have HR:=zH (zA r4 (zA g4 (zA f0 (zA f1 (zA f2 f3)))));clear hR ht r4 g4 f0 f1 f2 f3 aU hv;unfold jJ;generalize t.aP.length=n at*
 by_cases hi:i=n
 . rw[aV hi]
   have d1:((i:Int)==(n:Int))=true:=by simp;omega
   have d2:(i==n)=true:=by simp;omega
   have d3:((i:Int)=(n:Int))=True:=by simp;omega
   clear hi;go_enter Tryz.func144,Tryz.ntmps144;go_wp2_with fail;generalize (((w.alloc _).alloc _).alloc _).alloc _=w4 at*
   go_quiet (fail)
   go_wp2_with (go_at_call 163;refine (Fp (HR.out.1.drewN _) s).mono ?_;rintro e w2 ⟨A2,v,rfl,p1,p2,p3,p4⟩);go_ret;exact⟨A2,v,rfl,p1,(HR.out.2.1.trans (Grow.drewN _ _ _)).trans p2,p3,p4⟩
 . rw[aR hi]
   have d1:((i:Int)==(n:Int))=false:=by simp;omega
   have d2:(i==n)=false:=by simp;omega
   have d3:((i:Int)=(n:Int))=False:=by simp;omega
   clear hi;go_enter Tryz.func144,Tryz.ntmps144;go_wp2_with fail;generalize hw4:(((w.alloc _).alloc _).alloc _).alloc _=w4 at*;have hz:w4.heap.size=w.heap.size+1+1+1+1:=by rw[<-hw4];simp
   have HZ:=zH hz;clear hz hw4
   go_quiet (fail)
   generalize hw:w4.drewN _=w5;obtain⟨r,g,f0,f1,f2,f3⟩:=HR.out;have g5:Grow A.L w4 A.L w5:=by rw[<-hw];exact Grow.drewN _ _ _
   have r5:aC A D w5:=by rw[<-hw];exact r.drewN _
   obtain⟨r6,g6,f4⟩:=dA r5 #[.func (.func 164) #[] #[R w.heap.size 0,.pointer (some ⟨w.heap.size+1,0,none⟩),.pointer (some ⟨w.heap.size+1+1+1,0,none⟩),.pointer (some ⟨w.heap.size+1+1,0,none⟩),R w5.heap.size 0]] 139;have gg:=g5.trans g6;have HQ:=zH (zA r6 (zA (g.trans gg) (zA (f0.grow gg) (zA (f1.grow gg) (zA (f3.grow gg) (zA (f2.grow gg) f4))))));clear r g f0 f1 f2 f3 g5 r5 r6 g6 f4 gg hw;go_wp2_with fail;go_ret;obtain⟨q1,q2,q3,q4,q5,q6,q7⟩:=HQ.out;exact⟨A,_,rfl,q1,q2,bT.refl _ _,_,_,_,_,_,rfl,q3.box,q4.box,q5.box,q6.box,q7.box⟩
theorem disable (w:World):(callFunc 214 #[]).run Tryz.prog w=.ok (.value (.tuple #[])) w:=run_call_mark0 Tryz.func214 (by kernel_rfl) (by kernel_rfl) (by kernel_rfl) .disable (by kernel_rfl) w
theorem enable (w:World):(callFunc 216 #[]).run Tryz.prog w=.ok (.value (.tuple #[])) w:=run_call_mark0 Tryz.func216 (by kernel_rfl) (by kernel_rfl) (by kernel_rfl) .enable (by kernel_rfl) w
theorem acquire (a:Addr) (w:World):(callFunc 217 #[.pointer (some a)]).run Tryz.prog w=.ok (.value (.tuple #[])) w:=run_call_marked Tryz.func217 (by kernel_rfl) (by kernel_rfl) (by kernel_rfl) .acquire (by kernel_rfl) a w
theorem releaseMerge (a:Addr) (w:World):(callFunc 219 #[.pointer (some a)]).run Tryz.prog w=.ok (.value (.tuple #[])) w:=run_call_marked Tryz.func219 (by kernel_rfl) (by kernel_rfl) (by kernel_rfl) .releaseMerge (by kernel_rfl) a w
theorem wT (a:Addr) (x:Value) (u:FrameMode) (w:World) (hc:w.cell? a=some x) (hz:w.frozen? a=false):
 CallsD Tryz.prog 189 #[.pointer (some a),.bool true] u w fun e u' E=>u'=u∧(e=.returned (.tuple #[])∧E=w.drew.setCell a (.int .u32 1)):=by
 have hc':w.drew.cell? a=some x:=by go_simp
 have hz':w.drew.frozen? a=false:=by go_simp
 have hst:=run_call_store (P:=Tryz.prog) Tryz.func205 (by kernel_rfl) (by kernel_rfl) (by kernel_rfl) (by kernel_rfl) (k:=.u32) (y:=1) hc' hz'
 go_enter_d Tryz.func189,Tryz.ntmps189
 go_wp2
 go_region_calls
 all_goals (go_end0;exact⟨rfl,rfl⟩)
theorem unlock_deferred (a:Addr) (u:FrameMode) (w:World) (hc:w.cell? a=some (.int .i32 1)) (hz:w.frozen? a=false):
 CallsD Tryz.prog 188 #[.pointer (some a)] u w fun e u' E=>u'=u∧(e=.returned (.tuple #[])∧E=w.setCell a (.int .i32 0)):=by
 have hd:=disable;have he:=enable;have hr:=releaseMerge;have hadd:=run_call_add (P:=Tryz.prog) Tryz.func220 (by kernel_rfl) (by kernel_rfl) (by kernel_rfl) .i32 (by kernel_rfl) (y:=-1) (s:=0) hc hz (by simp[go_sem];rfl);have hcv:=run_convert_to_unsafe (P:=Tryz.prog) (src:=281) (dst:=285) Tryz.underlying281 Tryz.underlying285 (by kernel_rfl) hc
 go_enter_d Tryz.func188,Tryz.ntmps188
 go_wp2
 go_end0
 go_wp2
 go_end0
 exact⟨rfl,rfl⟩
theorem lock_free (a:Addr) (w:World) (hc:w.cell? a=some (.int .i32 0)) (hz:w.frozen? a=false):
 zk 187 #[.pointer (some a)] w fun e E=>e=.returned (.tuple #[])∧E=w.setCell a (.int .i32 1):=by
 have hd:=disable;have he:=enable;have ha:=acquire;have hcas:=run_call_cas_hit (P:=Tryz.prog) Tryz.func215 (by kernel_rfl) (by kernel_rfl) (by kernel_rfl) .i32 (by kernel_rfl) (y:=1) hc hz;have hc':(w.setCell a (.int .i32 1)).cell? a=some (.int .i32 1):=World.cell?_setCell_same w a _ hc;have hcv:=run_convert_to_unsafe (P:=Tryz.prog) (src:=281) (dst:=285) Tryz.underlying281 Tryz.underlying285 (by kernel_rfl) hc';go_enter Tryz.func187,Tryz.ntmps187;go_wp2
 first|go_end0|(simp only[Exit.inBlock,Exit.then];refine bodyPost_ret (results_none rfl _ _ _) rfl ?_)|refine bodyPost_ret (results_none rfl _ _ _) rfl ?_
 go_wp2
 go_end0
 exact⟨rfl,rfl⟩
structure Held (b off:Nat) (w:World):Prop where
 d:w.cell? (J b off)=some (.int .u32 0)
 m:w.cell? (J b (off+1))=some (.int .i32 1)
 zd:w.frozen? (J b off)=false
 zm:w.frozen? (J b (off+1))=false
def Ib (b off:Nat) (w:World):World:=(w.drew.setCell (J b off) (.int .u32 1)).setCell (J b (off+1)) (.int .i32 0)
theorem KM (b off fc:Nat) (rq:Array Value) (w:World) (Q:World->Prop) (h0:w.cell? (J b off)=some (.int .u32 0)) (h1:w.cell? (J b (off+1))=some (.int .i32 0))
 (f0:w.frozen? (J b off)=false) (f1:w.frozen? (J b (off+1))=false)
 (he:∀ w,(callFunc fc rq).run Tryz.prog w=.ok (.enter fc rq) w)
 (hf:zk fc rq (w.setCell (J b (off+1)) (.int .i32 1)) fun e E=>e=.returned (.tuple #[])∧Q E) (hq:∀ E,Q E->Held b off E):
 zk 166 #[R b off,.func (.func fc) #[] rq] w fun e E=>e=.returned (.tuple #[])∧∃ w2,Q w2∧E=Ib b off w2:=by
 have hl:=run_call_load (P:=Tryz.prog) Tryz.func186 (by kernel_rfl) (by kernel_rfl) (by kernel_rfl) .u32 (by kernel_rfl) (w:=w.setCell (J b (off+1)) (.int .i32 1)) (a:=(J b off)) (x:=0) ((World.cell?_setCell_other _ (J b (off+1)) (J b off) _ (by simp)).trans h0);have hnot:∀ (x:Bool) (w:World),(Op.unary .not (.bool x)).run Tryz.prog w=.ok (.bool (!x)) w:=fun _ _=>rfl
 have HF:=zH hf;have HQ:=zH hq;clear hf hq
 go_enter_defers Tryz.func166,Tryz.ntmps166
 go_wp2_with (first|(go_at_call 187;refine (lock_free (J b (off+1)) _ (by go_simp) (by go_simp)).mono ?_;rintro e E ⟨rfl,rfl⟩)|(go_at_call 165;go_in));refine HF.out.mono ?_;rintro e w2 ⟨rfl,hw2⟩;go_wp2;refine leaves_cons (f:=189) (args:=#[R b off,.bool true]) (by simp) (by simp[go_sem]) ?_;have HH:=HQ.out w2 hw2;refine (wT (J b off) (.int .u32 0) .returning _ HH.d HH.zd).mono ?_;rintro e u' w'' ⟨rfl,rfl,rfl⟩;refine leaves_cons (f:=188) (args:=#[R b (off+1)]) (by simp[settle]) (by simp[go_sem]) ?_;refine (unlock_deferred (J b (off+1)) _ _ ?_ ?_).mono ?_
 . refine (World.cell?_setCell_other _ (J b off) (J b (off+1)) _ (by simp)).trans ?_
   rw[World.cell?_drew];exact HH.m
 . simp[HH.zm]
 rintro e u' w'' ⟨rfl,rfl,rfl⟩;simp[Leaves,settle,results,Tryz.results166];exact⟨w2,hw2,rfl⟩
theorem CP (b off fc:Nat) (rq:Array Value) (w:World) (Q:World->Prop) (h0:w.cell? (J b off)=some (.int .u32 0)) (h1:w.cell? (J b (off+1))=some (.int .i32 0))
 (f0:w.frozen? (J b off)=false) (f1:w.frozen? (J b (off+1))=false)
 (he:∀ w,(callFunc fc rq).run Tryz.prog w=.ok (.enter fc rq) w)
 (hf:zk fc rq (w.setCell (J b (off+1)) (.int .i32 1)) fun e E=>e=.returned (.tuple #[])∧Q E) (hq:∀ E,Q E->Held b off E):
 zk 146 #[R b off,.func (.func fc) #[] rq] w fun e E=>e=.returned (.tuple #[])∧∃ w2,Q w2∧E=Ib b off w2:=by
 have HS:=zH (KM b off fc rq w Q h0 h1 f0 f1 he hf hq);have hl:=run_call_load (P:=Tryz.prog) Tryz.func186 (by kernel_rfl) (by kernel_rfl) (by kernel_rfl) .u32 (by kernel_rfl) h0;have hnot:∀ (x:Bool) (w:World),(Op.unary .not (.bool x)).run Tryz.prog w=.ok (.bool (!x)) w:=fun _ _=>rfl
 clear he hf hq;go_enter Tryz.func146,Tryz.ntmps146;go_wp2_with (first|(go_at_call 166;refine HS.out.mono ?_;rintro e E ⟨rfl,hw⟩)|(go_at_call 165;go_in))
 go_end0
 exact⟨rfl,hw⟩
theorem Fs (rq:Array Value) (w:World):(callFunc 161 rq).run Tryz.prog w=.ok (.enter 161 rq) w:=by kernel_rfl
theorem Fu (rq:Array Value) (w:World):(callFunc 147 rq).run Tryz.prog w=.ok (.enter 147 rq) w:=by kernel_rfl
theorem Ic (a:Addr) (fv:Value) (w:World) (h0:w.cell? a=some (.int .u32 1)):
 zk 146 #[.pointer (some a),fv] w fun e E=>e=.returned (.tuple #[])∧E=w:=by
 have hl:=run_call_load (P:=Tryz.prog) Tryz.func186 (by kernel_rfl) (by kernel_rfl) (by kernel_rfl) .u32 (by kernel_rfl) h0;have hnot:∀ (x:Bool) (w:World),(Op.unary .not (.bool x)).run Tryz.prog w=.ok (.bool (!x)) w:=fun _ _=>rfl
 go_enter Tryz.func146,Tryz.ntmps146;go_wp2
 go_end0
 exact⟨rfl,rfl⟩
structure VL (D:St) (l:Nat):Prop where
 lo:1<=l % 131072
 hi:l % 131072<=D.aF
 u:l<18446744073709551616
theorem iY {D:St} {l:Nat} (h:VL D l):ag l<D.aF:=by have:=h.lo;have:=h.hi;unfold ag;omega
theorem Tq (hR:aC A D w) (s:Nat) (t:bL) (ht:D.aj.getD s none=some t) (F G b0 b1 b2 b3:Nat)
 (B0:aN A.L w b0 (R (A.bt s) 0)) (B1:aN A.L w b1 (I F)) (B2:aN A.L w b2 (R A.H 0)) (B3:aN A.L w b3 (R (A.bc s) 0))
 (at_:Nat) (hl:G=0∨VL D G) (hn:t.reads.length<1000000):
 zk 115 #[zu G,R b0 0,R b1 0,R b2 0,R b3 0] w (bE A w s (D.thn s ⟨F,at_,.get⟩ G)):=by
 have c0:=B0.cell;have c1:=B1.cell;have c2:=B2.cell;have c3:=B3.cell
 by_cases h0:G=0
 . have hr:=oH hR s t ht F G false hn
   have e0:(G !=0)=false:=by simpa using h0
   have e1:D.thn s ⟨F,at_,.get⟩ G=(D.read s F G false,.fin {e:=11}):=by simp only[St.thn,e0,aV h0]
   rw[e1];have d1:((G:Int)==0)=true:=by simpa using h0
   have d2:((G:Int) !=0)=false:=by simpa using h0
   have d3:((G:Int)=0)=True:=by simpa using h0
   have HR:=zH hr;have HB:=zH (zA B2 B3);clear hR ht hl hn hr e1 e0 h0 B0 B1 B2 B3;go_enter Tryz.func115,Tryz.ntmps115;go_wp2_with (first|(go_at_call 116;refine HR.out.mono ?_;rintro e Y ⟨rfl,A1,q1,q2,q3,q4,q5⟩;have c2:=(HB.out.1.grow q2).cell;have c3:=(HB.out.2.grow q2).cell;have HE:=zH (jf q1 s {e:=11} 11 0 0 0 (.slice none 0 0) rfl (.inr ⟨rfl,rfl⟩));rw[q3.H,q3.bc] at HE;have HQ:=zH (zA q2 q3);clear q1 q2 q3 q4 q5)|(go_at_call 113;refine HE.out.mono ?_;rintro e w2 ⟨A2,v,rfl,p1,p2,p3,p4⟩));go_ret;exact⟨A2,v,rfl,p1,HQ.out.1.trans p2,HQ.out.2.trans p3,p4⟩
 . have hv:=hl.resolve_left h0
   have hr:=oH hR s t ht F G true hn;have e0:(G !=0)=true:=by simpa using h0
   have e1:D.thn s ⟨F,at_,.get⟩ G=(D.read s F G true,.fin {value:=D.valueOf G}):=by
    simp only[St.thn,e0,aR h0];rfl
   rw[e1];have d1:((G:Int)==0)=false:=by simpa using h0
   have d2:((G:Int) !=0)=true:=by simpa using h0
   have d3:((G:Int)=0)=False:=by simpa using h0
   have HR:=zH hr;have HB:=zH (zA B2 (zA B3 hv));have HT:=zH ht;have H0:=zH hR.sl;clear hR ht hl hn hr e1 B0 B1 B2 B3 hv e0 h0;go_enter Tryz.func115,Tryz.ntmps115;go_wp2_with (go_at_call 116;refine HR.out.mono ?_;rintro e Y ⟨rfl,A1,q1,q2,q3,q4,q5⟩);obtain⟨B2,B3,hv⟩:=HB.out;have c2:=(B2.grow q2).cell;have c3:=(B3.grow q2).cell;have hd:=(nA q1.drew G hv.lo hv.hi hv.u).mono fun e E h=>(⟨h.1,h.2.symm⟩:_∧E=Y.drew)
   have hval:=(q1.drew.val (show ag G<(D.read s F G true).aF from iY (D:=D) hv)).2;have he:=jf q1.drew s {value:=D.valueOf G} 0 (D.valueOf G:Int) 0 0 (.slice none 0 0) rfl (.inr ⟨rfl,rfl⟩);rw[q3.H,q3.bc] at he;rw[q3.H] at hd;have HE:=zH he;have HD:=zH hd;have HQ:=zH (zA q2 q3);have e3:(((D.read s F G true).values.getD (ag G) (0,0)).2:Int)=(D.valueOf G:Int):=rfl;rw[e3] at hval;clear he q1 q2 q3 q4 q5 B2 B3 hd hv e3;generalize A1.bv=bv at*;go_wp2_with fail;refine wp_region_still_tail 9 (by kernel_rfl) (by kernel_rfl) ?_;simp only[jS,jT,jU,jV]
   repeat still_step
   still_call HD.out
   repeat still_step
   refine wpStill_nil ?_;change wpList _ _ _ _ _ Y.drew;have HG:Hid (Grow A1.L Y A1.L Y.drew):=Grow.drew _ _;generalize Y.drew=w3 at*;go_wp2_with (go_at_call 113;refine HE.out.mono ?_;rintro e w2 ⟨A2,v,rfl,p1,p2,p3,p4⟩);go_ret;exact⟨A2,v,rfl,p1,(HQ.out.1.trans HG.out).trans p2,HQ.out.2.trans p3,p4⟩
theorem eQ (l:Nat) (k:Int) (n:Nat) (Z:(n:Int)=k) (h1:1<=l % 131072) (h2:l % 131072<=256) (hl:l<18446744073709551616) (hn:n<=2) (w:World):
 zk 85 #[zu l,I k] w fun e E=>e=.returned (I ((af l n:Nat):Int))∧w=E:=by subst Z;exact CG l n h1 h2 hl hn w
theorem dO (hR:aC A D w) {l k:Nat} (h1:1<=l % 131072) (h2:l % 131072<=D.aF) (Z:k<=2):af l k<D.words.length:=by rw[hR.nw];unfold af ag;omega
theorem NR (hR:aC A D w) (s:Nat) (t:bL) (ht:D.aj.getD s none=some t) (hu:dJ) (G b0 b1:Nat) (B0:gV (kp A D s) A.L w b0 hu) (B1:aN A.L w b1 (zu G))
 (h1:1<=G % 131072) (h2:G % 131072<=D.aF) (hl:G<18446744073709551616) (hx:D.word (af G 0)<18446744073709551616) (hc:D.count<4000000000000000000):
 zk 182 #[R b0 0,R b1 0] w (kY A w s (D.run s (.visit hu G))):=by
 have hsl:=hR.sl;obtain⟨bh,X0,vt,TT,fh,hth⟩:=B0;have c0:=X0.cell;have c1:=B1.cell;have h0:w.cell? (J bh 0)=zs A.H 0:=fh.cell 0 rfl;have e2:=hR.z2;have HK:Hid (∀ E,Kp A w E->zS E b0 0 bh 0∧zV E b1 0 G∧zS E bh 0 A.H 0∧zS E A.H 2 A.ba 0):=by
  obtain⟨_,x0⟩:=X0;obtain⟨_,x1⟩:=B1;exact fun E k=>⟨k.fix _ _ _ x0.1 c0,k.fix _ _ _ x1.1 c1,k.fix _ _ _ fh.1 h0,k.ea⟩
 have HS:=zH (eQ G 0 0 rfl h1 (by omega) hl (by omega));have HL:=zH (iJ hR.drew (af G 0) (dO hR h1 h2 (by omega)) hc);have HG:=zG A.L w;have hh0:dK (kp A D s) A.L w bh hu:=⟨vt,TT,fh,hth⟩
 have HB:Hid (∀ Y,aC A D.tick Y->Grow A.L w A.L Y->zk 183 #[R bh 0,zu G,zu (D.word (af G 0):Int)] Y (bE A Y s (D.tick,D.kG s hu G (D.word (af G 0))))):=
  fun Y r g=>I8 r s t ht bh hu (hh0.grow g) G _ hx
 clear hR ht X0 B1 fh hth h1 h2 hl hx hc hsl hh0;go_enter Tryz.func182,Tryz.ntmps182;go_wp2_with fail
 go_region_held3 (fun E=>zS E b0 0 bh 0∧zV E b1 0 G∧zS E bh 0 A.H 0∧zS E A.H 2 A.ba 0)
  (first|exact⟨c0,c1,h0,e2⟩|assumption|exact HK.out _ (Kp.of (by assumption) (by assumption) (by assumption)))
  (first|(go_at_call 85;refine (HS.out _).mono ?_;rintro e E ⟨rfl,rfl⟩)|(go_at_call 42;refine HL.out.mono ?_;rintro e Y ⟨rfl,q1,q2⟩;have q4:=HG.out.trans q2;have q3:=bT.refl A s;clear q2)|(go_at_call 183;refine (HB.out _ (by assumption) (by assumption)).mono ?_;rintro e w2 ⟨A',v,rfl,p1,p2,p3,p4⟩;have p5:=(‹Grow A.L w A.L _›).trans p2))
 go_wp2_with fail;go_ret;exact⟨A',_,rfl,p1,p5,p3,p4⟩
end Go.Proofs.YthicolbbmjfkfaaGreat.Em
