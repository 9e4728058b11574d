import Derived.Test.YthicolbbmjfkfaaGreatQh1
import Derived.Deep.QuietTactic
import Derived.BigQuiet
import Derived.StillTailTactics
import Derived.Test.YthicolbbmjfkfaaGreatQh2
import Derived.Deep.RegionHeld3
import Derived.Laws.AppendOwnNone
import Derived.ArgAppend
import Derived.Deep.RegionLaw
import Derived.MapKept
import Derived.Laws.EntriesVeiled
import Derived.Laws.LoneSync
import Derived.ChangeOld
import Derived.Deep.Slices
set_option linter.unusedVariables false
set_option linter.unusedSimpArgs false
set_option maxRecDepth 100000
set_option maxHeartbeats 1600000
namespace Go.Proofs.YthicolbbmjfkfaaGreat.Em
open Go.ChangeShapes Go.WideShapes Go.ChangeAt Go.RowKit En
variable {A:au} {D:St} {w:World}
def FD (A:au) (w:World) (bE:St) (v:Value):Ending->World->Prop:=fun e G=>e=.returned v∧aD A bE G∧Grow A.L w A.L G
theorem BX (h:aD A D w) (i:Nat) (hi:i<D.words.length) (hc:D.count<4000000000000000000):
 zk 80 #[R A.ba 0,I i] w fun e G=>e=.returned (R A.bw i)∧G=w.setCell (J A.ba 1) (I ((D.count:Int)+1)):=by
 have c0:=h.arena 0 rfl;have c1:w.cell? (J A.ba 1)=zt (D.count:Int):=h.arena 1 rfl;have z1:=h.Lt 1;generalize hn:D.words.length=n at*;have b1:(i:Int)<(n:Int):=by omega
 have b2:¬ (n:Int)<=(i:Int):=by omega
 have hadd:=run_call_add (P:=Tryz.prog) Tryz.func138 (by kernel_rfl) (by kernel_rfl) (by kernel_rfl) .i64 (by kernel_rfl) (y:=1) (s:=(D.count:Int)+1) c1 z1 (by simp[go_sem];rw[jH];omega);clear h hc hn hi;go_enter Tryz.func80,Tryz.ntmps80;go_wp2;go_ret;exact⟨rfl,rfl⟩
theorem gM (h:aD A D w) (i:Nat) (hi:i<D.words.length) (hc:D.count<4000000000000000000):
 zk 42 #[R A.ba 0,I i] w (FD A w D.tick (zu (D.word i:Int))):=by
 obtain⟨h1,g1⟩:=h.tick;have c2:=h1.word (i:=i) hi;have hl:=run_call_load (P:=Tryz.prog) Tryz.func104 (by kernel_rfl) (by kernel_rfl) (by kernel_rfl) .u64 (by kernel_rfl) c2;have hat:=BX h i hi hc;have zi:=U h1;have ae:=U g1;clear h1 g1 h hi hc;have e1:D.tick.word i=D.word i:=rfl;rw[e1] at hl c2;clear e1;generalize D.word i=x at*;go_enter Tryz.func42,Tryz.ntmps42;go_wp2_with (first|(go_at_call 80;refine hat.mono ?_;rintro e G ⟨rfl,rfl⟩)|(go_at_call 81;go_in));go_ret;exact⟨rfl,zi.out,ae.out⟩
theorem fC (h:aD A D w) (i n:Nat) (hi:i<D.words.length) (hc:D.count<4000000000000000000):
 zk 47 #[R A.ba 0,I i,zu n] w (FD A w (D.put i n) (.tuple #[])):=by
 obtain⟨h1,g1⟩:=h.tick;obtain⟨h2,g2⟩:=h.put i n;have c2:=h1.word (i:=i) hi;have z2:=h1.K7 i;have hl:=run_call_store (P:=Tryz.prog) Tryz.func106 (by kernel_rfl) (by kernel_rfl) (by kernel_rfl) (by kernel_rfl) (k:=.u64) (y:=(n:Int)) c2 z2;have hat:=BX h i hi hc;have zi:=U h2;have ae:=U g2;clear h1 g1 h2 g2 h hi hc;generalize (n:Int)=y at*;go_enter Tryz.func47,Tryz.ntmps47;go_wp2_with (first|(go_at_call 80;refine hat.mono ?_;rintro e G ⟨rfl,rfl⟩)|(go_at_call 83;go_in))
 go_end0
 go_wp2
 go_end0
 exact⟨rfl,zi.out,ae.out⟩
theorem oN (h:aD A D w) (i o n:Nat) (hi:i<D.words.length) (hc:D.count<4000000000000000000):
 zk 45 #[R A.ba 0,I i,zu o,zu n] w (FD A w (D.bP i o n) (.bool (D.word i==o))):=by
 obtain⟨h1,g1⟩:=h.tick;obtain⟨h2,g2⟩:=h.put i n;have c2:=h1.word (i:=i) hi;have z2:=h1.K7 i;have e1:D.tick.word i=D.word i:=rfl;rw[e1] at c2;have hat:=BX h i hi hc
 by_cases hx:D.word i=o
 . have e2:D.bP i o n=D.put i n:=aV hx
   have e3:(D.word i==o)=true:=by simp[hx]
   rw[e2,e3];rw[hx] at c2;have hl:=run_call_cas_hit (P:=Tryz.prog) Tryz.func105 (by kernel_rfl) (by kernel_rfl) (by kernel_rfl) .u64 (by kernel_rfl) (y:=(n:Int)) c2 z2;have zi:=U h2;have ae:=U g2;clear h1 g1 h2 g2 h hi hc hx e1 e2 e3;generalize (n:Int)=y at*;generalize (o:Int)=z at*;go_enter Tryz.func45,Tryz.ntmps45;go_wp2_with (first|(go_at_call 80;refine hat.mono ?_;rintro e G ⟨rfl,rfl⟩)|(go_at_call 82;go_in));go_ret;exact⟨rfl,zi.out,ae.out⟩
 . have e2:D.bP i o n=D.tick:=aX hx
   have e3:(D.word i==o)=false:=by simp[hx]
   rw[e2,e3];have hl:=run_call_cas_miss (P:=Tryz.prog) Tryz.func105 (by kernel_rfl) (by kernel_rfl) (by kernel_rfl) .u64 (by kernel_rfl) (o:=(o:Int)) (y:=(n:Int)) c2 z2 (by omega);have zi:=U h1;have ae:=U g1;clear h1 g1 h2 g2 h hi hc e1 e2 e3;generalize (n:Int)=y at*;generalize (o:Int)=z at*;go_enter Tryz.func45,Tryz.ntmps45;go_wp2_with (first|(go_at_call 80;refine hat.mono ?_;rintro e G ⟨rfl,rfl⟩)|(go_at_call 82;go_in));go_ret;exact⟨rfl,zi.out,ae.out⟩
theorem kT (h:aD A D w) (hc:D.count<4000000000000000000):
 zk 71 #[R A.ba 0] w fun e G=>e=.returned (I (D.count:Int))∧w=G:=by
 have c1:w.cell? (J A.ba 1)=zt (D.count:Int):=h.arena 1 rfl;have hl:=run_call_load (P:=Tryz.prog) Tryz.func133 (by kernel_rfl) (by kernel_rfl) (by kernel_rfl) .i64 (by kernel_rfl) c1;clear h hc;go_enter Tryz.func71,Tryz.ntmps71;go_wp2;go_ret;exact⟨rfl,rfl⟩
theorem BZ {l w:Nat} (h1:1<=l % 131072):((af l w:Nat):Int)=73+((l:Int) % 131072 - 1)*3+(w:Int):=by
 unfold af aj;omega
theorem zI (l k:Nat) (h1:1<=l % 131072) (h2:l % 131072<=256) (hl:l<18446744073709551616) (V:k<=2) (w:World):
 zk 85 #[zu l,I k] w fun e G=>e=.returned (I ((af l k:Nat):Int))∧w=G:=by
 rw[BZ h1];have hu:=Word.mW (l:Int) (by omega) (by omega) w;generalize hi:(l:Int) % 131072 - 1=i at*;have b1:0<=i:=by omega
 have b2:i<=255:=by omega
 generalize hj:(k:Int)=j at*;have b3:0<=j:=by omega
 have b4:j<=2:=by omega
 have HU:=U hu;clear h1 h2 hl V hi hj hu;go_enter Tryz.func85,Tryz.ntmps85;go_wp2_with (go_at_call 107;refine HU.out.mono ?_;rintro e G ⟨rfl,rfl⟩);go_ret;exact⟨rfl,rfl⟩
theorem wI (h:aD A D w) (id:Nat) (hid:id<=65535):
 zk 48 #[R A.Y 0,I id] w fun e G=>e=.returned (I ((D.place id:Nat):Int))∧w=G:=by
 have c0:w.cell? (J A.Y 0)=zt (D.aC:Int):=h.eH 0 rfl;have hsl:=h.sl;have e:((D.place id:Nat):Int)=73+(D.aC:Int)*3+(id:Int):=by unfold St.place;omega
 rw[e];clear e;generalize hs:(D.aC:Int)=s at*;have b1:1<=s:=by omega
 have b2:s<=256:=by omega
 generalize hj:(id:Int)=j at*;have b3:0<=j:=by omega
 have b4:j<=65535:=by omega
 clear h hsl hs hj hid;go_enter Tryz.func48,Tryz.ntmps48;go_wp2;go_ret;exact⟨rfl,rfl⟩
theorem FY (st en:Nat) (h1:st<8) (h2:en<1152921504606846976) (w:World):
 zk 49 #[I st,zu en] w fun e G=>e=.returned (zu ((pack st en:Nat):Int))∧w=G:=by
 have e:((pack st en:Nat):Int)=(en:Int)*8+(st:Int):=by unfold pack;omega
 rw[e];clear e;have eo:=Bt.I8 (en:Int) (st:Int) (by omega) (by omega) (by omega) (by omega);have ew:IntKind.u64.wrap (st:Int)=(st:Int):=by rw[IntKind.wrap_u64];omega
 have es:IntKind.u64.wrap ((en:Int)*8)=(en:Int)*8:=by rw[IntKind.wrap_u64];omega
 generalize hs:(en:Int)=s at*;have b1:0<=s:=by omega
 have b2:s<1152921504606846976:=by omega
 generalize hj:(st:Int)=j at*;have b3:0<=j:=by omega
 have b4:j<8:=by omega
 clear hs hj h1 h2;go_enter Tryz.func49,Tryz.ntmps49;go_wp2;go_ret;exact⟨rfl,rfl⟩
theorem jM (s e:Int) (st en:Nat) (hs:(st:Int)=s) (he:(en:Int)=e) (h1:st<8) (h2:en<1152921504606846976) (w:World):
 zk 49 #[I s,zu e] w fun e G=>e=.returned (zu ((pack st en:Nat):Int))∧G=w:=by
 subst hs he;exact (FY st en h1 h2 w).mono fun _ _ h=>⟨h.1,h.2.symm⟩
theorem jN (x:Nat) (hx:x<18446744073709551616) (w:World):
 zk 109 #[zu x] w fun e G=>e=.returned (.tuple #[I ((bA x:Nat):Int),zu ((gD x:Nat):Int)])∧w=G:=by
 have e1:((bA x:Nat):Int)=(x:Int) % 8:=by unfold bA;omega
 have e2:((gD x:Nat):Int)=(x:Int) / 8:=by unfold gD;omega
 rw[e1,e2];clear e1 e2;have ea:=Bt.FT (x:Int);have b0:0<=(x:Int):=by omega
 have b1:(x:Int)<18446744073709551616:=by omega
 have ew:IntKind.i64.wrap ((x:Int) % 8)=(x:Int) % 8:=by rw[jH];omega
 generalize hs:(x:Int)=s at*;clear hs hx;go_enter Tryz.func109,Tryz.ntmps109;go_wp2
 go_ret2
 exact⟨rfl,rfl⟩
theorem mE (t id:Nat) (h1:t<281474976710656) (h2:id<65536) (w:World):
 zk 46 #[zu t,I id] w fun e G=>e=.returned (zu ((aO t id:Nat):Int))∧w=G:=by
 have e:((aO t id:Nat):Int)=(t:Int)*65536+(id:Int):=by unfold aO;omega
 rw[e];clear e;have eo:=Bt.u64_or16 (t:Int) (id:Int) (by omega) (by omega) (by omega) (by omega);have ew:IntKind.u64.wrap (id:Int)=(id:Int):=by rw[IntKind.wrap_u64];omega
 have es:IntKind.u64.wrap ((t:Int)*65536)=(t:Int)*65536:=by rw[IntKind.wrap_u64];omega
 generalize hs:(t:Int)=s at*;have b1:0<=s:=by omega
 have b2:s<281474976710656:=by omega
 generalize hj:(id:Int)=j at*;have b3:0<=j:=by omega
 have b4:j<65536:=by omega
 clear hs hj h1 h2;go_enter Tryz.func46,Tryz.ntmps46;go_wp2;go_ret;exact⟨rfl,rfl⟩
theorem kU (x:Nat) (hx:x<18446744073709551616) (w:World):
 zk 43 #[zu x] w fun e G=>e=.returned (.tuple #[zu ((ai x:Nat):Int),I ((aT x:Nat):Int)])∧w=G:=by
 have e1:((aT x:Nat):Int)=(x:Int) % 65536:=by unfold aT;omega
 have e2:((ai x:Nat):Int)=(x:Int) / 65536:=by unfold ai;omega
 rw[e1,e2];clear e1 e2;have ea:=Bt.qx (x:Int);have b0:0<=(x:Int):=by omega
 have b1:(x:Int)<18446744073709551616:=by omega
 have ew:IntKind.i64.wrap ((x:Int) % 65536)=(x:Int) % 65536:=by rw[jH];omega
 generalize hs:(x:Int)=s at*;clear hs hx;go_enter Tryz.func43,Tryz.ntmps43;go_wp2
 go_ret2
 exact⟨rfl,rfl⟩
theorem tQ (h:aD A D w) (x:Nat) (hx:x<18446744073709551616) (hi:aT x<=2000) (hc:D.count<4000000000000000000):
 zk 44 #[R A.Y 0,zu x] w (FD A w (D.bT x) (.tuple #[])):=by
 have c2:w.cell? (J A.Y 2)=zs A.ba 0:=h.eH 2 rfl;have k1:=kU x hx w;have k2:=(wI h.drew (aT x) (by omega)).mono fun e G h=>(⟨h.1,h.2.symm⟩:_∧G=w.drew)
 have k3:=jM 1 0 1 0 rfl rfl (by omega) (by omega) w.drew;have k4:=jM 2 (ai x) 2 (ai x) rfl rfl (by omega) (by unfold ai;omega) w.drew;have k5:=oN h (D.place (aT x)) (pack 1 0) (pack 2 (ai x)) (by rw[h.nw];unfold St.place;omega) hc;have K1:=U k1;have K2:=U k2;have K3:=U k3;have K4:=U k4;clear k5;have k6:=oN h.drew (D.place (aT x)) (pack 1 0) (pack 2 (ai x)) (by rw[h.nw];unfold St.place;omega) hc;have G0:Grow A.L w A.L w.drew:=Grow.drew _ _;have K5:=U k6;have HG:=U G0;clear k1 k2 k3 k4 k6 h hx hi hc G0;go_enter Tryz.func44,Tryz.ntmps44;go_wp2_with (go_at_call 43;refine K1.out.mono ?_;rintro e G ⟨rfl,rfl⟩);refine wp_region_still_tail 10 (by kernel_rfl) (by kernel_rfl) ?_;simp only[jk,jl,jm,jo]
 repeat still_step
 still_call K2.out
 still_call K3.out
 repeat still_step
 still_call K4.out
 refine wpStill_nil ?_;change wpList _ _ _ _ _ w.drew;generalize w.drew=w2 at*;go_wp2_with (go_at_call 45;refine K5.out.mono ?_;rintro e G ⟨rfl,hR,hG⟩)
 go_end0
 exact⟨rfl,hR,HG.out.trans hG⟩
def Ca (e:Nat) (L:cZ) (w:World) (v:Value):Option S->Prop
 |none=>v=.nilFunc
 |some .now=>v=.func (.func 74) #[ptr e] #[]
 |some (.live s)=>∃ b0 b1,v=.func (.func 136) #[] #[ptr b0,ptr b1]∧aK L w b0 (ptr e)∧aK L w b1 (i64 s)
 |some (.head E)=>∃ b0 b1,v=.func (.func 159) #[] #[ptr b0,ptr b1]∧aK L w b0 (ptr e)∧aK L w b1 (i64 E)
 |some (.visit E bZ F)=>∃ b0 b1 b2 b3,v=.func (.func 179) #[] #[ptr b0,ptr b1,ptr b2,ptr b3]∧aK L w b0 (ptr e)∧aK L w b1 (u64 F)∧aK L w b2 (i64 E)∧aK L w b3 (u64 bZ)
 |some (.maker E bZ F id)=>∃ b0 b1 b2 b3 b4,v=.func (.func 195) #[] #[ptr b0,ptr b1,ptr b2,ptr b3,ptr b4]∧aK L w b0 (ptr e)∧aK L w b1 (i64 id)∧aK L w b2 (i64 E)∧aK L w b3 (u64 bZ)∧aK L w b4 (u64 F)
 |some (.lM E bZ F b)=>∃ b0 b1 b2 b3 b4,v=.func (.func 198) #[] #[ptr b0,ptr b1,ptr b2,ptr b3,ptr b4]∧aK L w b0 (u64 b)∧aK L w b1 (ptr e)∧aK L w b2 (u64 F)∧aK L w b3 (i64 E)∧aK L w b4 (u64 bZ)
 |some (.on E F)=>∃ b0 b1 b2,v=.func (.func 209) #[] #[ptr b0,ptr b1,ptr b2]∧aK L w b0 (ptr e)∧aK L w b1 (i64 E)∧aK L w b2 (u64 F)
 |some (.unlink E bZ F)=>∃ b0 b1 b2 b3,v=.func (.func 207) #[] #[ptr b0,ptr b1,ptr b2,ptr b3]∧aK L w b0 (ptr e)∧aK L w b1 (u64 F)∧aK L w b2 (i64 E)∧aK L w b3 (u64 bZ)
 |some (.cut E bZ F nx)=>∃ b0 b1 b2 b3 b4,v=.func (.func 222) #[] #[ptr b0,ptr b1,ptr b2,ptr b3,ptr b4]∧aK L w b0 (u64 bZ)∧aK L w b1 (ptr e)∧aK L w b2 (u64 nx)∧aK L w b3 (i64 E)∧aK L w b4 (u64 F)
theorem Ca.grow {e:Nat} {L L':cZ} {w G:World} {v:Value} (g:Grow L w L' G):∀ {k:Option S},Ca e L w v k->Ca e L' G v k
 |none,h=>h
 |some .now,h=>h
 |some (.live s),h=>let ⟨b0,b1,e,k0,k1⟩:=h;⟨b0,b1,e,k0.grow g,k1.grow g⟩
 |some (.head E),h=>let ⟨b0,b1,e,k0,k1⟩:=h;⟨b0,b1,e,k0.grow g,k1.grow g⟩
 |some (.visit E bZ F),h=>let ⟨b0,b1,b2,b3,e,k0,k1,k2,k3⟩:=h;⟨b0,b1,b2,b3,e,k0.grow g,k1.grow g,k2.grow g,k3.grow g⟩
 |some (.maker E bZ F id),h=>let ⟨b0,b1,b2,b3,b4,e,k0,k1,k2,k3,k4⟩:=h;⟨b0,b1,b2,b3,b4,e,k0.grow g,k1.grow g,k2.grow g,k3.grow g,k4.grow g⟩
 |some (.lM E bZ F b),h=>let ⟨b0,b1,b2,b3,b4,e,k0,k1,k2,k3,k4⟩:=h;⟨b0,b1,b2,b3,b4,e,k0.grow g,k1.grow g,k2.grow g,k3.grow g,k4.grow g⟩
 |some (.on E F),h=>let ⟨b0,b1,b2,e,k0,k1,k2⟩:=h;⟨b0,b1,b2,e,k0.grow g,k1.grow g,k2.grow g⟩
 |some (.unlink E bZ F),h=>let ⟨b0,b1,b2,b3,e,k0,k1,k2,k3⟩:=h;⟨b0,b1,b2,b3,e,k0.grow g,k1.grow g,k2.grow g,k3.grow g⟩
 |some (.cut E bZ F nx),h=>let ⟨b0,b1,b2,b3,b4,e,k0,k1,k2,k3,k4⟩:=h;⟨b0,b1,b2,b3,b4,e,k0.grow g,k1.grow g,k2.grow g,k3.grow g,k4.grow g⟩
def Ol (l:List (Nat×Nat)):List Value:=l.flatMap fun p=>[u64 p.1,i64 p.2]
def zJ (A:au) (l:List (Nat×Nat)):Prop:=
 (A.hcut=false∧A.mf=.slice none 0 0∧l=[])∨
 (A.hcut=true∧∃ k cap,A.mf=.slice (some ⟨A.vT,2*k,none⟩) l.length cap∧l.length<=cap∧k+cap<=maxLen∧2*(k+cap)<=A.nS.length∧(A.nS.drop (2*k)).take (2*l.length)=Ol l)
structure tT (A:au) (D:St) (w:World):Prop where
 sw:Ca A.Y A.L w (A.sv D.sw) D.sw
 cu:zJ A D.cut
def au.Du (A:au):Nat×(Value×Value×Bool×Nat×List Value):=(A.Y,A.Qm)
theorem xZ {A A':au} (h:A'.Du=A.Du):A'.Y=A.Y:=congrArg (·.1) h
theorem FZ {A A':au} (h:A'.Du=A.Du) (x:Option S):A'.sv x=A.sv x:=by
 have:A'.gJ=A.gJ:=congrArg (·.2.1) h;unfold au.sv;rw[this]
theorem zJ.keep {A A':au} {l:List (Nat×Nat)} (h:zJ A l) (e:A'.Du=A.Du):zJ A' l:=by
 have c1:A'.mf=A.mf:=congrArg (·.2.2.1) e;have c2:A'.hcut=A.hcut:=congrArg (·.2.2.2.1) e;have c3:A'.vT=A.vT:=congrArg (·.2.2.2.2.1) e;have c4:A'.nS=A.nS:=congrArg (·.2.2.2.2.2) e;unfold zJ;rw[c1,c2,c3,c4];exact h
theorem tT.keep {A A':au} {D bE:St} {w G:World} (h:tT A D w) (e:A'.Du=A.Du) (hs:bE.sw=D.sw∧bE.cut=D.cut) (g:Grow A.L w A'.L G):tT A' bE G:=
 ⟨by rw[xZ e,FZ e,hs.1];exact h.sw.grow g,by rw[hs.2];exact h.cu.keep e⟩
structure KP where
 e:Nat
 t:Nat
 c:Nat
 x:Nat
 vp:Value
 ps:List (Nat×Nat)
def KP.xo (p:KP) (x:Bool):Value:=if x then ptr p.x else .pointer none
def kp (A:au) (D:St) (s:Nat):KP:=⟨A.Y,A.bt s,A.bc s,A.bx s (D.c s).op.E,A.aR s,(D.c s).r.aB⟩
def zK (r:ic) (vp:Value):List Value:=[i64 r.e,i64 r.value,vp,i64 r.over,i64 r.ay]
def kG (p:KP) (L:cZ) (w:World) (b:Nat) (r:ic):Prop:=∃ vp T,Fix L w b (.cells (zK r vp).toArray T)∧((vp=p.vp∧r.aB=p.ps)∨(vp=.slice none 0 0∧r.aB=[]))
def kr (L:cZ) (w:World) (b id:Nat):Prop:=∃ T,Fix L w b (.cells #[i64 2,u64 id] T)
def lQ (L:cZ) (w:World) (b F:Nat):Prop:=∃ T E got,Fix L w b (.cells #[i64 E,u64 F,.bool got] T)
def iZ (L:cZ) (w:World) (b:Nat) (x:Bool) (head:Nat):Prop:=∃ v,aK L w b v∧dQ L w 1 v (if x then [] else [u64 head])
def ku (l:List wG):List Value:=l.flatMap fun x=>[i64 x.at_,u64 x.old,u64 x.new]
def lS (L:cZ) (w:World) (b:Nat) (l:List wG):Prop:=∃ v,aK L w b v∧dQ L w 3 v (ku l)
def lT (p:KP) (L:cZ) (w:World) (b E:Nat):Prop:=∃ v,aK L w b v∧∃ c0 c1,v=.func (.func 117) #[] #[ptr c0,ptr c1]∧aK L w c0 (ptr p.c)∧aK L w c1 (i64 E)
def jX (p:KP) (L:cZ) (w:World) (b F head at_:Nat):Prop:=∃ v,aK L w b v∧∃ c0 c1 c2 c3 c4 c5,v=.func (.func 172) #[] #[ptr c0,ptr c1,ptr c2,ptr c3,ptr c4,ptr c5]∧aK L w c0 (ptr p.e)∧aK L w c1 (ptr p.t)∧aK L w c2 (ptr p.c)∧aK L w c3 (u64 F)∧aK L w c4 (u64 head)∧aK L w c5 (u64 at_)
def lU (p:KP) (L:cZ) (w:World) (b H now:Nat):Prop:=∃ v,aK L w b v∧∃ c0 c1 c2 c3 c4,v=.func (.func 120) #[] #[ptr c0,ptr c1,ptr c2,ptr c3,ptr c4]∧aK L w c0 (ptr p.e)∧aK L w c1 (u64 H)∧aK L w c2 (u64 now)∧aK L w c3 (ptr p.t)∧aK L w c4 (ptr p.c)
def jA (p:KP) (L:cZ) (w:World) (v:Value) (E:Nat):Ls->Prop
 |.get=>∃ b0 b1 b2 b3,v=.func (.func 115) #[] #[ptr b0,ptr b1,ptr b2,ptr b3]∧aK L w b0 (ptr p.t)∧aK L w b1 (i64 E)∧aK L w b2 (ptr p.e)∧aK L w b3 (ptr p.c)
 |.scan k=>∃ b0 b1 b2 b3 b4,v=.func (.func 118) #[] #[ptr b0,ptr b1,ptr b2,ptr b3,ptr b4]∧aK L w b0 (ptr p.t)∧aK L w b1 (i64 k)∧lT p L w b2 k∧aK L w b3 (ptr p.e)∧aK L w b4 (ptr p.c)
 |.change=>∃ b0 b1 b2 b3,v=.func (.func 130) #[] #[ptr b0,ptr b1,ptr b2,ptr b3]∧aK L w b0 (ptr p.c)∧aK L w b1 (ptr p.t)∧aK L w b2 (i64 E)∧aK L w b3 (ptr p.e)
 |.judge i l=>∃ b0 b1 b2 b3 b4,v=.func (.func 145) #[] #[ptr b0,ptr b1,ptr b2,ptr b3,ptr b4]∧lQ L w b0 l∧aK L w b1 (ptr p.e)∧aK L w b2 (ptr p.t)∧aK L w b3 (ptr p.c)∧aK L w b4 (i64 i)
def dE (p:KP) (L:cZ) (w:World) (bh:Nat) (h:dw):Prop:=∃ vt T,Fix L w bh (.cells #[ptr p.e,ptr p.t,i64 h.E,u64 h.at_,vt] T)∧jA p L w vt h.E h.thn
def fT (p:KP) (L:cZ) (w:World) (b:Nat) (h:dw):Prop:=∃ bh,aK L w b (ptr bh)∧dE p L w bh h
def lL (p:KP) (L:cZ) (w:World) (v:Value):K->Prop
 |.start h=>∃ bh,v=.func (.func 142) #[ptr bh] #[]∧dE p L w bh h
 |.fin r=>∃ b0 b1 b2,v=.func (.func 140) #[] #[ptr b0,ptr b1,ptr b2]∧aK L w b0 (ptr p.e)∧aK L w b1 (ptr p.c)∧kG p L w b2 r
 |.visit h F=>∃ b0 b1,v=.func (.func 182) #[] #[ptr b0,ptr b1]∧fT p L w b0 h∧aK L w b1 (u64 F)
 |.older h F=>∃ b0 b1,v=.func (.func 213) #[] #[ptr b0,ptr b1]∧fT p L w b0 h∧aK L w b1 (u64 F)
 |.maker h F id=>∃ b0 b1 b2,v=.func (.func 202) #[] #[ptr b0,ptr b1,ptr b2]∧fT p L w b0 h∧aK L w b1 (i64 id)∧aK L w b2 (u64 F)
 |.ended h F mb=>∃ b0 b1 b2,v=.func (.func 210) #[] #[ptr b0,ptr b1,ptr b2]∧fT p L w b0 h∧aK L w b1 (u64 F)∧aK L w b2 (i64 mb)
 |.eY h F mb id=>∃ b0 b1 b2 b3,v=.func (.func 225) #[] #[ptr b0,ptr b1,ptr b2,ptr b3]∧fT p L w b0 h∧aK L w b1 (i64 id)∧aK L w b2 (u64 F)∧aK L w b3 (i64 mb)
 |.seen h F mb=>∃ b0 b1 b2,v=.func (.func 223) #[] #[ptr b0,ptr b1,ptr b2]∧fT p L w b0 h∧aK L w b1 (i64 mb)∧aK L w b2 (u64 F)
 |.again ax=>∃ b0 b1 b2 b3,v=.func (.func 152) #[] #[ptr b0,ptr b1,ptr b2,ptr b3]∧aK L w b0 (ptr p.e)∧aK L w b1 (ptr p.x)∧aK L w b2 (u64 ax)∧aK L w b3 (ptr p.c)
 |.own F=>∃ b0 b1 b2 b3,v=.func (.func 155) #[] #[ptr b0,ptr b1,ptr b2,ptr b3]∧aK L w b0 (ptr p.e)∧aK L w b1 (u64 F)∧aK L w b2 (ptr p.t)∧aK L w b3 (ptr p.c)
 |.fG F H id=>∃ b0 b1 b2 b3 b4 b5,v=.func (.func 157) #[] #[ptr b0,ptr b1,ptr b2,ptr b3,ptr b4,ptr b5]∧aK L w b0 (ptr p.e)∧aK L w b1 (i64 id)∧aK L w b2 (ptr p.t)∧aK L w b3 (ptr p.c)∧aK L w b4 (u64 F)∧aK L w b5 (u64 H)
 |.claim F H=>∃ b0 b1 b2 b3 b4,v=.func (.func 176) #[] #[ptr b0,ptr b1,ptr b2,ptr b3,ptr b4]∧aK L w b0 (ptr p.e)∧aK L w b1 (u64 F)∧aK L w b2 (u64 H)∧aK L w b3 (ptr p.t)∧aK L w b4 (ptr p.c)
 |.fresh F=>∃ b0 b1 b2 b3,v=.func (.func 153) #[] #[ptr b0,ptr b1,ptr b2,ptr b3]∧aK L w b0 (ptr p.e)∧aK L w b1 (ptr p.c)∧aK L w b2 (ptr p.t)∧aK L w b3 (u64 F)
 |.next F head at_=>∃ b0 b1 b2 b3 b4 b5,v=.func (.func 172) #[] #[ptr b0,ptr b1,ptr b2,ptr b3,ptr b4,ptr b5]∧aK L w b0 (ptr p.e)∧aK L w b1 (ptr p.t)∧aK L w b2 (ptr p.c)∧aK L w b3 (u64 F)∧aK L w b4 (u64 head)∧aK L w b5 (u64 at_)
 |.free F head at_=>∃ b0 b1 b2 b3 b4 b5,v=.func (.func 173) #[] #[ptr b0,ptr b1,ptr b2,ptr b3,ptr b4,ptr b5]∧aK L w b0 (ptr p.e)∧aK L w b1 (u64 at_)∧aK L w b2 (ptr p.t)∧jX p L w b3 F head at_∧aK L w b4 (ptr p.c)∧aK L w b5 (u64 F)
 |.dB F head at_ id=>∃ b0 b1 b2 b3 b4 b5,v=.func (.func 175) #[] #[ptr b0,ptr b1,ptr b2,ptr b3,ptr b4,ptr b5]∧aK L w b0 (ptr p.e)∧kr L w b1 id∧aK L w b2 (ptr p.t)∧jX p L w b3 F head at_∧aK L w b4 (ptr p.c)∧aK L w b5 (u64 F)
 |.dX x F head=>∃ b0 b1 b2 b3 b4 b5,v=.func (.func 168) #[] #[ptr b0,ptr b1,ptr b2,ptr b3,ptr b4,ptr b5]∧aK L w b0 (ptr p.e)∧aK L w b1 (u64 F)∧aK L w b2 (ptr p.t)∧aK L w b3 (p.xo x)∧aK L w b4 (ptr p.c)∧iZ L w b5 x head
 |.dM x F head=>∃ b0 b1 b2 b3 b4 b5,v=.func (.func 169) #[] #[ptr b0,ptr b1,ptr b2,ptr b3,ptr b4,ptr b5]∧aK L w b0 (ptr p.e)∧aK L w b1 (u64 F)∧aK L w b2 (p.xo x)∧aK L w b3 (ptr p.t)∧aK L w b4 (ptr p.c)∧iZ L w b5 x head
 |.push F head=>∃ b0 b1 b2 b3 b4,v=.func (.func 190) #[] #[ptr b0,ptr b1,ptr b2,ptr b3,ptr b4]∧aK L w b0 (ptr p.e)∧aK L w b1 (u64 F)∧aK L w b2 (u64 head)∧aK L w b3 (ptr p.c)∧aK L w b4 (ptr p.t)
 |.dC F head=>∃ b0 b1 b2 b3 b4,v=.func (.func 191) #[] #[ptr b0,ptr b1,ptr b2,ptr b3,ptr b4]∧aK L w b0 (ptr p.e)∧aK L w b1 (ptr p.c)∧aK L w b2 (u64 head)∧aK L w b3 (u64 F)∧aK L w b4 (ptr p.t)
 |.over F=>∃ b0 b1 b2 b3 b4,v=.func (.func 192) #[] #[ptr b0,ptr b1,ptr b2,ptr b3,ptr b4]∧aK L w b0 (ptr p.e)∧aK L w b1 (ptr p.c)∧aK L w b2 (u64 F)∧aK L w b3 (ptr p.t)∧aK L w b4 (ptr p.x)
 |.fU F head=>∃ b0 b1 b2 b3 b4 b5,v=.func (.func 193) #[] #[ptr b0,ptr b1,ptr b2,ptr b3,ptr b4,ptr b5]∧aK L w b0 (ptr p.e)∧aK L w b1 (u64 F)∧aK L w b2 (u64 head)∧aK L w b3 (ptr p.c)∧aK L w b4 (ptr p.t)∧aK L w b5 (ptr p.x)
 |.dI F head=>∃ b0 b1 b2 b3 b4 b5,v=.func (.func 194) #[] #[ptr b0,ptr b1,ptr b2,ptr b3,ptr b4,ptr b5]∧aK L w b0 (ptr p.e)∧aK L w b1 (ptr p.c)∧aK L w b2 (u64 head)∧aK L w b3 (u64 F)∧aK L w b4 (ptr p.t)∧aK L w b5 (ptr p.x)
 |.draw=>∃ b0 b1 b2,v=.func (.func 119) #[] #[ptr b0,ptr b1,ptr b2]∧aK L w b0 (ptr p.e)∧aK L w b1 (ptr p.t)∧aK L w b2 (ptr p.c)
 |.dJ H now=>∃ b0 b1 b2,v=.func (.func 123) #[] #[ptr b0,ptr b1,ptr b2]∧aK L w b0 (ptr p.e)∧aK L w b1 (u64 H)∧lU p L w b2 H now
 |.turn H now=>∃ b0 b1 b2 b3 b4,v=.func (.func 120) #[] #[ptr b0,ptr b1,ptr b2,ptr b3,ptr b4]∧aK L w b0 (ptr p.e)∧aK L w b1 (u64 H)∧aK L w b2 (u64 now)∧aK L w b3 (ptr p.t)∧aK L w b4 (ptr p.c)
 |.dD=>∃ b0 b1 b2,v=.func (.func 121) #[] #[ptr b0,ptr b1,ptr b2]∧aK L w b0 (ptr p.e)∧aK L w b1 (ptr p.t)∧aK L w b2 (ptr p.c)
 |.wait i=>∃ b0 b1 b2 b3 b4,v=.func (.func 164) #[] #[ptr b0,ptr b1,ptr b2,ptr b3,ptr b4]∧aK L w b0 (ptr p.e)∧aK L w b1 (ptr p.t)∧aK L w b2 (i64 i)∧aK L w b3 (ptr p.c)∧aK L w b4 v
 |.turns [] r=>∃ b0 b1 b2 b3,v=.func (.func 149) #[] #[ptr b0,ptr b1,ptr b2,ptr b3]∧aK L w b0 (ptr p.e)∧aK L w b1 (ptr p.t)∧aK L w b2 (ptr p.c)∧kG p L w b3 r
 |.turns (x::l) r=>∃ b0 b1 b2 b3 b4,v=.func (.func 150) #[] #[ptr b0,ptr b1,ptr b2,ptr b3,ptr b4]∧lS L w b0 (x::l)∧aK L w b1 (ptr p.e)∧aK L w b2 (ptr p.t)∧aK L w b3 (ptr p.c)∧kG p L w b4 r
 |.bO=>∃ b0 b1 b2,v=.func (.func 184) #[] #[ptr b0,ptr b1,ptr b2]∧aK L w b0 (ptr p.e)∧aK L w b1 (ptr p.t)∧aK L w b2 (ptr p.c)
 |.abort e ay=>∃ b0 b1 b2 b3 b4,v=.func (.func 124) #[] #[ptr b0,ptr b1,ptr b2,ptr b3,ptr b4]∧aK L w b0 (ptr p.e)∧aK L w b1 (ptr p.t)∧aK L w b2 (i64 ay)∧aK L w b3 (ptr p.c)∧aK L w b4 (i64 e)
section
variable {p:KP} {L L':cZ} {w G:World}
theorem kG.grow {b:Nat} {r:ic} (h:kG p L w b r) (g:Grow L w L' G):kG p L' G b r:=let ⟨vp,T,h1,h2⟩:=h;⟨vp,T,h1.grow g,h2⟩
theorem kr.grow {b n:Nat} (h:kr L w b n) (g:Grow L w L' G):kr L' G b n:=let ⟨T,h1⟩:=h;⟨T,h1.grow g⟩
theorem lQ.grow {b n:Nat} (h:lQ L w b n) (g:Grow L w L' G):lQ L' G b n:=let ⟨T,k,q,h1⟩:=h;⟨T,k,q,h1.grow g⟩
theorem iZ.grow {b n:Nat} {x:Bool} (h:iZ L w b x n) (g:Grow L w L' G):iZ L' G b x n:=let ⟨v,h1,h2⟩:=h;⟨v,h1.grow g,h2.grow g⟩
theorem lS.grow {b:Nat} {l:List wG} (h:lS L w b l) (g:Grow L w L' G):lS L' G b l:=let ⟨v,h1,h2⟩:=h;⟨v,h1.grow g,h2.grow g⟩
theorem lT.grow {b k:Nat} (h:lT p L w b k) (g:Grow L w L' G):lT p L' G b k:=let ⟨v,h1,c0,c1,e,k0,k1⟩:=h;⟨v,h1.grow g,c0,c1,e,k0.grow g,k1.grow g⟩
theorem jX.grow {b l1 l2 l3:Nat} (h:jX p L w b l1 l2 l3) (g:Grow L w L' G):jX p L' G b l1 l2 l3:=let ⟨v,h1,c0,c1,c2,c3,c4,c5,e,k0,k1,k2,k3,k4,k5⟩:=h;⟨v,h1.grow g,c0,c1,c2,c3,c4,c5,e,k0.grow g,k1.grow g,k2.grow g,k3.grow g,k4.grow g,k5.grow g⟩
theorem lU.grow {b l1 l2:Nat} (h:lU p L w b l1 l2) (g:Grow L w L' G):lU p L' G b l1 l2:=let ⟨v,h1,c0,c1,c2,c3,c4,e,k0,k1,k2,k3,k4⟩:=h;⟨v,h1.grow g,c0,c1,c2,c3,c4,e,k0.grow g,k1.grow g,k2.grow g,k3.grow g,k4.grow g⟩
theorem jA.grow {v:Value} {E:Nat} {t:Ls} (h:jA p L w v E t) (g:Grow L w L' G):jA p L' G v E t:=
 match t,h with
 |.get,hh=>let ⟨b0,b1,b2,b3,e,k0,k1,k2,k3⟩:=hh;⟨b0,b1,b2,b3,e,k0.grow g,k1.grow g,k2.grow g,k3.grow g⟩
 |.scan k,hh=>let ⟨b0,b1,b2,b3,b4,e,k0,k1,k2,k3,k4⟩:=hh;⟨b0,b1,b2,b3,b4,e,k0.grow g,k1.grow g,k2.grow g,k3.grow g,k4.grow g⟩
 |.change,hh=>let ⟨b0,b1,b2,b3,e,k0,k1,k2,k3⟩:=hh;⟨b0,b1,b2,b3,e,k0.grow g,k1.grow g,k2.grow g,k3.grow g⟩
 |.judge i l,hh=>let ⟨b0,b1,b2,b3,b4,e,k0,k1,k2,k3,k4⟩:=hh;⟨b0,b1,b2,b3,b4,e,k0.grow g,k1.grow g,k2.grow g,k3.grow g,k4.grow g⟩
theorem dE.grow {b:Nat} {h:dw} (hh:dE p L w b h) (g:Grow L w L' G):dE p L' G b h:=let ⟨v,T,h1,h2⟩:=hh;⟨v,T,h1.grow g,h2.grow g⟩
theorem fT.grow {b:Nat} {h:dw} (hh:fT p L w b h) (g:Grow L w L' G):fT p L' G b h:=let ⟨v,h1,h2⟩:=hh;⟨v,h1.grow g,h2.grow g⟩
theorem lL.grow {v:Value} {k:K} (h:lL p L w v k) (g:Grow L w L' G):lL p L' G v k:=
 match k,h with
 |.start _,⟨bh,e,h1⟩=>⟨bh,e,h1.grow g⟩
 |.fin r,hh=>let ⟨b0,b1,b2,e,k0,k1,k2⟩:=hh;⟨b0,b1,b2,e,k0.grow g,k1.grow g,k2.grow g⟩
 |.visit h F,hh=>let ⟨b0,b1,e,k0,k1⟩:=hh;⟨b0,b1,e,k0.grow g,k1.grow g⟩
 |.older h F,hh=>let ⟨b0,b1,e,k0,k1⟩:=hh;⟨b0,b1,e,k0.grow g,k1.grow g⟩
 |.maker h F id,hh=>let ⟨b0,b1,b2,e,k0,k1,k2⟩:=hh;⟨b0,b1,b2,e,k0.grow g,k1.grow g,k2.grow g⟩
 |.ended h F mb,hh=>let ⟨b0,b1,b2,e,k0,k1,k2⟩:=hh;⟨b0,b1,b2,e,k0.grow g,k1.grow g,k2.grow g⟩
 |.eY h F mb id,hh=>let ⟨b0,b1,b2,b3,e,k0,k1,k2,k3⟩:=hh;⟨b0,b1,b2,b3,e,k0.grow g,k1.grow g,k2.grow g,k3.grow g⟩
 |.seen h F mb,hh=>let ⟨b0,b1,b2,e,k0,k1,k2⟩:=hh;⟨b0,b1,b2,e,k0.grow g,k1.grow g,k2.grow g⟩
 |.again ax,hh=>let ⟨b0,b1,b2,b3,e,k0,k1,k2,k3⟩:=hh;⟨b0,b1,b2,b3,e,k0.grow g,k1.grow g,k2.grow g,k3.grow g⟩
 |.own F,hh=>let ⟨b0,b1,b2,b3,e,k0,k1,k2,k3⟩:=hh;⟨b0,b1,b2,b3,e,k0.grow g,k1.grow g,k2.grow g,k3.grow g⟩
 |.fG F H id,hh=>let ⟨b0,b1,b2,b3,b4,b5,e,k0,k1,k2,k3,k4,k5⟩:=hh;⟨b0,b1,b2,b3,b4,b5,e,k0.grow g,k1.grow g,k2.grow g,k3.grow g,k4.grow g,k5.grow g⟩
 |.claim F H,hh=>let ⟨b0,b1,b2,b3,b4,e,k0,k1,k2,k3,k4⟩:=hh;⟨b0,b1,b2,b3,b4,e,k0.grow g,k1.grow g,k2.grow g,k3.grow g,k4.grow g⟩
 |.fresh F,hh=>let ⟨b0,b1,b2,b3,e,k0,k1,k2,k3⟩:=hh;⟨b0,b1,b2,b3,e,k0.grow g,k1.grow g,k2.grow g,k3.grow g⟩
 |.next F head at_,hh=>let ⟨b0,b1,b2,b3,b4,b5,e,k0,k1,k2,k3,k4,k5⟩:=hh;⟨b0,b1,b2,b3,b4,b5,e,k0.grow g,k1.grow g,k2.grow g,k3.grow g,k4.grow g,k5.grow g⟩
 |.free F head at_,hh=>let ⟨b0,b1,b2,b3,b4,b5,e,k0,k1,k2,k3,k4,k5⟩:=hh;⟨b0,b1,b2,b3,b4,b5,e,k0.grow g,k1.grow g,k2.grow g,k3.grow g,k4.grow g,k5.grow g⟩
 |.dB F head at_ id,hh=>let ⟨b0,b1,b2,b3,b4,b5,e,k0,k1,k2,k3,k4,k5⟩:=hh;⟨b0,b1,b2,b3,b4,b5,e,k0.grow g,k1.grow g,k2.grow g,k3.grow g,k4.grow g,k5.grow g⟩
 |.dX x F head,hh=>let ⟨b0,b1,b2,b3,b4,b5,e,k0,k1,k2,k3,k4,k5⟩:=hh;⟨b0,b1,b2,b3,b4,b5,e,k0.grow g,k1.grow g,k2.grow g,k3.grow g,k4.grow g,k5.grow g⟩
 |.dM x F head,hh=>let ⟨b0,b1,b2,b3,b4,b5,e,k0,k1,k2,k3,k4,k5⟩:=hh;⟨b0,b1,b2,b3,b4,b5,e,k0.grow g,k1.grow g,k2.grow g,k3.grow g,k4.grow g,k5.grow g⟩
 |.push F head,hh=>let ⟨b0,b1,b2,b3,b4,e,k0,k1,k2,k3,k4⟩:=hh;⟨b0,b1,b2,b3,b4,e,k0.grow g,k1.grow g,k2.grow g,k3.grow g,k4.grow g⟩
 |.dC F head,hh=>let ⟨b0,b1,b2,b3,b4,e,k0,k1,k2,k3,k4⟩:=hh;⟨b0,b1,b2,b3,b4,e,k0.grow g,k1.grow g,k2.grow g,k3.grow g,k4.grow g⟩
 |.over F,hh=>let ⟨b0,b1,b2,b3,b4,e,k0,k1,k2,k3,k4⟩:=hh;⟨b0,b1,b2,b3,b4,e,k0.grow g,k1.grow g,k2.grow g,k3.grow g,k4.grow g⟩
 |.fU F head,hh=>let ⟨b0,b1,b2,b3,b4,b5,e,k0,k1,k2,k3,k4,k5⟩:=hh;⟨b0,b1,b2,b3,b4,b5,e,k0.grow g,k1.grow g,k2.grow g,k3.grow g,k4.grow g,k5.grow g⟩
 |.dI F head,hh=>let ⟨b0,b1,b2,b3,b4,b5,e,k0,k1,k2,k3,k4,k5⟩:=hh;⟨b0,b1,b2,b3,b4,b5,e,k0.grow g,k1.grow g,k2.grow g,k3.grow g,k4.grow g,k5.grow g⟩
 |.draw,hh=>let ⟨b0,b1,b2,e,k0,k1,k2⟩:=hh;⟨b0,b1,b2,e,k0.grow g,k1.grow g,k2.grow g⟩
 |.dJ H now,hh=>let ⟨b0,b1,b2,e,k0,k1,k2⟩:=hh;⟨b0,b1,b2,e,k0.grow g,k1.grow g,k2.grow g⟩
 |.turn H now,hh=>let ⟨b0,b1,b2,b3,b4,e,k0,k1,k2,k3,k4⟩:=hh;⟨b0,b1,b2,b3,b4,e,k0.grow g,k1.grow g,k2.grow g,k3.grow g,k4.grow g⟩
 |.dD,hh=>let ⟨b0,b1,b2,e,k0,k1,k2⟩:=hh;⟨b0,b1,b2,e,k0.grow g,k1.grow g,k2.grow g⟩
 |.wait i,hh=>let ⟨b0,b1,b2,b3,b4,e,k0,k1,k2,k3,k4⟩:=hh;⟨b0,b1,b2,b3,b4,e,k0.grow g,k1.grow g,k2.grow g,k3.grow g,k4.grow g⟩
 |.turns [] r,hh=>let ⟨b0,b1,b2,b3,e,k0,k1,k2,k3⟩:=hh;⟨b0,b1,b2,b3,e,k0.grow g,k1.grow g,k2.grow g,k3.grow g⟩
 |.turns (x::l) r,hh=>let ⟨b0,b1,b2,b3,b4,e,k0,k1,k2,k3,k4⟩:=hh;⟨b0,b1,b2,b3,b4,e,k0.grow g,k1.grow g,k2.grow g,k3.grow g,k4.grow g⟩
 |.bO,hh=>let ⟨b0,b1,b2,e,k0,k1,k2⟩:=hh;⟨b0,b1,b2,e,k0.grow g,k1.grow g,k2.grow g⟩
 |.abort e ay,hh=>let ⟨b0,b1,b2,b3,b4,e,k0,k1,k2,k3,k4⟩:=hh;⟨b0,b1,b2,b3,b4,e,k0.grow g,k1.grow g,k2.grow g,k3.grow g,k4.grow g⟩
end
structure bL (A A':au) (s:Nat):Prop where
 bf:A'.Du=A.Du
 ba:A'.ba=A.ba
 bp:A'.bp=A.bp
 bt:A'.bt=A.bt
 bm:A'.bm=A.bm
 bc:A'.bc=A.bc
 aW:A'.aW=A.aW
 bG:A'.bG=A.bG
 gJ:A'.gJ=A.gJ
 mp:A'.mp=A.mp
 mt:A'.mt=A.mt
 bx:∀ k,k≠s->A'.bx k=A.bx k
 aR:∀ k,k≠s->A'.aR k=A.aR k
theorem bL.Y {A A':au} {s:Nat} (h:bL A A' s):A'.Y=A.Y:=xZ h.bf
theorem bL.refl (A:au) (s:Nat):bL A A s:=⟨rfl,rfl,rfl,rfl,rfl,rfl,rfl,rfl,rfl,rfl,rfl,fun _ _=>rfl,fun _ _=>rfl⟩
theorem bL.trans {A B C:au} {s:Nat} (h:bL A B s) (k:bL B C s):bL A C s:=
 ⟨k.bf.trans h.bf,k.ba.trans h.ba,k.bp.trans h.bp,k.bt.trans h.bt,k.bm.trans h.bm,k.bc.trans h.bc,k.aW.trans h.aW,k.bG.trans h.bG,k.gJ.trans h.gJ,k.mp.trans h.mp,k.mt.trans h.mt,fun j hj=>(k.bx j hj).trans (h.bx j hj),fun j hj=>(k.aR j hj).trans (h.aR j hj)⟩
def jO (A:au) (w:World) (s:Nat) (r:St×Option K):Ending->World->Prop:=fun e G=>
 ∃ A' v,e=.returned v∧aD A' r.1 G∧Grow A.L w A'.L G∧bL A A' s∧(match r.2 with|some k=>lL (kp A' r.1 s) A'.L G v k|none=>v=.nilFunc)
def aZ (A:au) (w:World) (s:Nat) (r:St×K):Ending->World->Prop:=fun e G=>
 ∃ A' v,e=.returned v∧aD A' r.1 G∧Grow A.L w A'.L G∧bL A A' s∧lL (kp A' r.1 s) A'.L G v r.2
structure Kp (A:au) (w G:World):Prop where
 fix:∀ b o v,A.L b=none->w.cell? (J b o)=some v->G.cell? (J b o)=some v
 ea:G.cell? (J A.Y 2)=some (ptr A.ba)
theorem Kp.of {A A':au} {bE:St} {w G:World} {s:Nat} (g:Grow A.L w A'.L G) (h:aD A' bE G) (st:bL A A' s):Kp A w G:=
 ⟨fun b o v hl hc=>(World.cell?_of_block (w:=w) (a:=(J b o)) (g.block b (World.block_lt_of_cell? w _ hc) hl)).trans hc,by have:=h.eH 2 (v:=ptr A'.ba) rfl;rw[st.Y,st.ba] at this;exact this⟩
theorem Fix.box {L:cZ} {w:World} {b:Nat} {v:Value} {T:TypeId} (h:Fix L w b (.cells #[v] T)):aK L w b v:=⟨T,h⟩
theorem jh (w:World) (o:Obj):(w.alloc o).heap.size=w.heap.size+1:=by simp
theorem dO {L:cZ} {w:World} {b:Nat} (hf:∀ k,w.heap.size<=k->L k=none) (o:Obj) (Z:b=w.heap.size):Fix L (w.alloc o) b o:=by subst Z;exact Fix.alloc (hf _ (zr _))
theorem cB (hR:aD A D w) (c0:Array Value) (T0:TypeId):aD A D (w.alloc (.cells c0 T0))∧Grow A.L w A.L (w.alloc (.cells c0 T0))∧Fix A.L (w.alloc (.cells c0 T0)) (w.heap.size) (.cells c0 T0):=by
 exact⟨hR.alloc _,Grow.alloc _ _ _,dO hR.mem.fresh _ rfl⟩
theorem kL (hR:aD A D w) (c0:Array Value) (T0:TypeId) (c1:Array Value) (T1:TypeId):aD A D ((w.alloc (.cells c0 T0)).alloc (.cells c1 T1))∧Grow A.L w A.L ((w.alloc (.cells c0 T0)).alloc (.cells c1 T1))∧Fix A.L ((w.alloc (.cells c0 T0)).alloc (.cells c1 T1)) (w.heap.size) (.cells c0 T0)∧Fix A.L ((w.alloc (.cells c0 T0)).alloc (.cells c1 T1)) (w.heap.size+1) (.cells c1 T1):=by
 obtain⟨r,g,f0⟩:=cB hR c0 T0;have k:=Grow.alloc A.L (w.alloc (.cells c0 T0)) (.cells c1 T1);exact⟨r.alloc _,g.trans k,f0.grow k,dO r.mem.fresh _ (by simp)⟩
theorem iO (hR:aD A D w) (c0:Array Value) (T0:TypeId) (c1:Array Value) (T1:TypeId) (c2:Array Value) (T2:TypeId):aD A D (((w.alloc (.cells c0 T0)).alloc (.cells c1 T1)).alloc (.cells c2 T2))∧Grow A.L w A.L (((w.alloc (.cells c0 T0)).alloc (.cells c1 T1)).alloc (.cells c2 T2))∧Fix A.L (((w.alloc (.cells c0 T0)).alloc (.cells c1 T1)).alloc (.cells c2 T2)) (w.heap.size) (.cells c0 T0)∧Fix A.L (((w.alloc (.cells c0 T0)).alloc (.cells c1 T1)).alloc (.cells c2 T2)) (w.heap.size+1) (.cells c1 T1)∧Fix A.L (((w.alloc (.cells c0 T0)).alloc (.cells c1 T1)).alloc (.cells c2 T2)) (w.heap.size+2) (.cells c2 T2):=by
 obtain⟨r,g,f0,f1⟩:=kL hR c0 T0 c1 T1;have k:=Grow.alloc A.L ((w.alloc (.cells c0 T0)).alloc (.cells c1 T1)) (.cells c2 T2);exact⟨r.alloc _,g.trans k,f0.grow k,f1.grow k,dO r.mem.fresh _ (by simp)⟩
theorem jB (hR:aD A D w) (c0:Array Value) (T0:TypeId) (c1:Array Value) (T1:TypeId) (c2:Array Value) (T2:TypeId) (c3:Array Value) (T3:TypeId):aD A D ((((w.alloc (.cells c0 T0)).alloc (.cells c1 T1)).alloc (.cells c2 T2)).alloc (.cells c3 T3))∧Grow A.L w A.L ((((w.alloc (.cells c0 T0)).alloc (.cells c1 T1)).alloc (.cells c2 T2)).alloc (.cells c3 T3))∧Fix A.L ((((w.alloc (.cells c0 T0)).alloc (.cells c1 T1)).alloc (.cells c2 T2)).alloc (.cells c3 T3)) (w.heap.size) (.cells c0 T0)∧Fix A.L ((((w.alloc (.cells c0 T0)).alloc (.cells c1 T1)).alloc (.cells c2 T2)).alloc (.cells c3 T3)) (w.heap.size+1) (.cells c1 T1)∧Fix A.L ((((w.alloc (.cells c0 T0)).alloc (.cells c1 T1)).alloc (.cells c2 T2)).alloc (.cells c3 T3)) (w.heap.size+2) (.cells c2 T2)∧Fix A.L ((((w.alloc (.cells c0 T0)).alloc (.cells c1 T1)).alloc (.cells c2 T2)).alloc (.cells c3 T3)) (w.heap.size+3) (.cells c3 T3):=by
 obtain⟨r,g,f0,f1,f2⟩:=iO hR c0 T0 c1 T1 c2 T2;have k:=Grow.alloc A.L (((w.alloc (.cells c0 T0)).alloc (.cells c1 T1)).alloc (.cells c2 T2)) (.cells c3 T3);exact⟨r.alloc _,g.trans k,f0.grow k,f1.grow k,f2.grow k,dO r.mem.fresh _ (by simp)⟩
theorem jY (hR:aD A D w) (c0:Array Value) (T0:TypeId) (c1:Array Value) (T1:TypeId) (c2:Array Value) (T2:TypeId) (c3:Array Value) (T3:TypeId) (c4:Array Value) (T4:TypeId):aD A D (((((w.alloc (.cells c0 T0)).alloc (.cells c1 T1)).alloc (.cells c2 T2)).alloc (.cells c3 T3)).alloc (.cells c4 T4))∧Grow A.L w A.L (((((w.alloc (.cells c0 T0)).alloc (.cells c1 T1)).alloc (.cells c2 T2)).alloc (.cells c3 T3)).alloc (.cells c4 T4))∧Fix A.L (((((w.alloc (.cells c0 T0)).alloc (.cells c1 T1)).alloc (.cells c2 T2)).alloc (.cells c3 T3)).alloc (.cells c4 T4)) (w.heap.size) (.cells c0 T0)∧Fix A.L (((((w.alloc (.cells c0 T0)).alloc (.cells c1 T1)).alloc (.cells c2 T2)).alloc (.cells c3 T3)).alloc (.cells c4 T4)) (w.heap.size+1) (.cells c1 T1)∧Fix A.L (((((w.alloc (.cells c0 T0)).alloc (.cells c1 T1)).alloc (.cells c2 T2)).alloc (.cells c3 T3)).alloc (.cells c4 T4)) (w.heap.size+2) (.cells c2 T2)∧Fix A.L (((((w.alloc (.cells c0 T0)).alloc (.cells c1 T1)).alloc (.cells c2 T2)).alloc (.cells c3 T3)).alloc (.cells c4 T4)) (w.heap.size+3) (.cells c3 T3)∧Fix A.L (((((w.alloc (.cells c0 T0)).alloc (.cells c1 T1)).alloc (.cells c2 T2)).alloc (.cells c3 T3)).alloc (.cells c4 T4)) (w.heap.size+4) (.cells c4 T4):=by
 obtain⟨r,g,f0,f1,f2,f3⟩:=jB hR c0 T0 c1 T1 c2 T2 c3 T3;have k:=Grow.alloc A.L ((((w.alloc (.cells c0 T0)).alloc (.cells c1 T1)).alloc (.cells c2 T2)).alloc (.cells c3 T3)) (.cells c4 T4);exact⟨r.alloc _,g.trans k,f0.grow k,f1.grow k,f2.grow k,f3.grow k,dO r.mem.fresh _ (by simp)⟩
theorem Dv (hR:aD A D w) (c0:Array Value) (T0:TypeId) (c1:Array Value) (T1:TypeId) (c2:Array Value) (T2:TypeId) (c3:Array Value) (T3:TypeId) (c4:Array Value) (T4:TypeId) (c5:Array Value) (T5:TypeId):aD A D ((((((w.alloc (.cells c0 T0)).alloc (.cells c1 T1)).alloc (.cells c2 T2)).alloc (.cells c3 T3)).alloc (.cells c4 T4)).alloc (.cells c5 T5))∧Grow A.L w A.L ((((((w.alloc (.cells c0 T0)).alloc (.cells c1 T1)).alloc (.cells c2 T2)).alloc (.cells c3 T3)).alloc (.cells c4 T4)).alloc (.cells c5 T5))∧Fix A.L ((((((w.alloc (.cells c0 T0)).alloc (.cells c1 T1)).alloc (.cells c2 T2)).alloc (.cells c3 T3)).alloc (.cells c4 T4)).alloc (.cells c5 T5)) (w.heap.size) (.cells c0 T0)∧Fix A.L ((((((w.alloc (.cells c0 T0)).alloc (.cells c1 T1)).alloc (.cells c2 T2)).alloc (.cells c3 T3)).alloc (.cells c4 T4)).alloc (.cells c5 T5)) (w.heap.size+1) (.cells c1 T1)∧Fix A.L ((((((w.alloc (.cells c0 T0)).alloc (.cells c1 T1)).alloc (.cells c2 T2)).alloc (.cells c3 T3)).alloc (.cells c4 T4)).alloc (.cells c5 T5)) (w.heap.size+2) (.cells c2 T2)∧Fix A.L ((((((w.alloc (.cells c0 T0)).alloc (.cells c1 T1)).alloc (.cells c2 T2)).alloc (.cells c3 T3)).alloc (.cells c4 T4)).alloc (.cells c5 T5)) (w.heap.size+3) (.cells c3 T3)∧Fix A.L ((((((w.alloc (.cells c0 T0)).alloc (.cells c1 T1)).alloc (.cells c2 T2)).alloc (.cells c3 T3)).alloc (.cells c4 T4)).alloc (.cells c5 T5)) (w.heap.size+4) (.cells c4 T4)∧Fix A.L ((((((w.alloc (.cells c0 T0)).alloc (.cells c1 T1)).alloc (.cells c2 T2)).alloc (.cells c3 T3)).alloc (.cells c4 T4)).alloc (.cells c5 T5)) (w.heap.size+5) (.cells c5 T5):=by
 obtain⟨r,g,f0,f1,f2,f3,f4⟩:=jY hR c0 T0 c1 T1 c2 T2 c3 T3 c4 T4;have k:=Grow.alloc A.L (((((w.alloc (.cells c0 T0)).alloc (.cells c1 T1)).alloc (.cells c2 T2)).alloc (.cells c3 T3)).alloc (.cells c4 T4)) (.cells c5 T5);exact⟨r.alloc _,g.trans k,f0.grow k,f1.grow k,f2.grow k,f3.grow k,f4.grow k,dO r.mem.fresh _ (by simp)⟩
theorem kV (hR:aD A D w) (s:Nat) (bh:Nat) (h:dw) (hh:dE (kp A D s) A.L w bh h) (F:Nat):
 zk 201 #[R bh 0,zu F] w (aZ A w s (D,.older h F)):=by
 have zo:=U (kL hR #[R bh 0] 246 #[zu F] 25);have HH:=U hh;clear hh;clear hR;go_enter Tryz.func201,Tryz.ntmps201;go_wp2;go_ret;obtain⟨r1,r2,f0,f1⟩:=zo.out;exact⟨A,_,rfl,r1,r2,bL.refl _ _,_,_,rfl,⟨_,f0.box,HH.out.grow r2⟩,f1.box⟩
theorem qZ (hR:aD A D w) (s:Nat) (bh:Nat) (h:dw) (hh:dE (kp A D s) A.L w bh h) (F:Nat) (mb:Nat):
 zk 200 #[R bh 0,zu F,I mb] w (aZ A w s (D,.ended h F mb)):=by
 have zo:=U (iO hR #[R bh 0] 246 #[zu F] 25 #[I mb] 3);have HH:=U hh;clear hh;clear hR;go_enter Tryz.func200,Tryz.ntmps200;go_wp2;go_ret;obtain⟨r1,r2,f0,f1,f2⟩:=zo.out;exact⟨A,_,rfl,r1,r2,bL.refl _ _,_,_,_,rfl,⟨_,f0.box,HH.out.grow r2⟩,f1.box,f2.box⟩
theorem Eu (hR:aD A D w) (s:Nat) (bh:Nat) (h:dw) (hh:dE (kp A D s) A.L w bh h) (F:Nat) (mb:Nat) (id:Nat):
 zk 212 #[R bh 0,zu F,I mb,I id] w (aZ A w s (D,.eY h F mb id)):=by
 have zo:=U (jB hR #[R bh 0] 246 #[zu F] 25 #[I mb] 3 #[I id] 3);have HH:=U hh;clear hh;clear hR;go_enter Tryz.func212,Tryz.ntmps212;go_wp2;go_ret;obtain⟨r1,r2,f0,f1,f2,f3⟩:=zo.out;exact⟨A,_,rfl,r1,r2,bL.refl _ _,_,_,_,_,rfl,⟨_,f0.box,HH.out.grow r2⟩,f3.box,f1.box,f2.box⟩
theorem zL (hR:aD A D w) (s:Nat):
 zk 96 #[R A.Y 0,R (A.bt s) 0,R (A.bc s) 0] w (aZ A w s (D,.draw)):=by
 have zo:=U (iO hR #[R A.Y 0] 32 #[R (A.bt s) 0] 100 #[R (A.bc s) 0] 105);clear hR;go_enter Tryz.func96,Tryz.ntmps96;go_wp2;go_ret;obtain⟨r1,r2,f0,f1,f2⟩:=zo.out;exact⟨A,_,rfl,r1,r2,bL.refl _ _,_,_,_,rfl,f0.box,f1.box,f2.box⟩
theorem Cb (hR:aD A D w) (s:Nat):
 zk 163 #[R A.Y 0,R (A.bt s) 0,R (A.bc s) 0] w (aZ A w s (D,.bO)):=by
 have zo:=U (iO hR #[R A.Y 0] 32 #[R (A.bt s) 0] 100 #[R (A.bc s) 0] 105);clear hR;go_enter Tryz.func163,Tryz.ntmps163;go_wp2;go_ret;obtain⟨r1,r2,f0,f1,f2⟩:=zo.out;exact⟨A,_,rfl,r1,r2,bL.refl _ _,_,_,_,rfl,f0.box,f1.box,f2.box⟩
theorem iP (hR:aD A D w) (s:Nat) (er:Nat) (ay:Nat):
 zk 97 #[R A.Y 0,R (A.bt s) 0,R (A.bc s) 0,I er,I ay] w (aZ A w s (D,.abort er ay)):=by
 have zo:=U (jY hR #[R A.Y 0] 32 #[R (A.bt s) 0] 100 #[R (A.bc s) 0] 105 #[I er] 29 #[I ay] 3);clear hR;go_enter Tryz.func97,Tryz.ntmps97;go_wp2;go_ret;obtain⟨r1,r2,f0,f1,f2,f3,f4⟩:=zo.out;exact⟨A,_,rfl,r1,r2,bL.refl _ _,_,_,_,_,_,rfl,f0.box,f1.box,f4.box,f2.box,f3.box⟩
theorem wJ (hR:aD A D w) (s:Nat) (F:Nat):
 zk 131 #[R A.Y 0,R (A.bt s) 0,R (A.bc s) 0,zu F] w (aZ A w s (D,.fresh F)):=by
 have zo:=U (jB hR #[R A.Y 0] 32 #[R (A.bt s) 0] 100 #[R (A.bc s) 0] 105 #[zu F] 25);clear hR;go_enter Tryz.func131,Tryz.ntmps131;go_wp2;go_ret;obtain⟨r1,r2,f0,f1,f2,f3⟩:=zo.out;exact⟨A,_,rfl,r1,r2,bL.refl _ _,_,_,_,_,rfl,f0.box,f2.box,f1.box,f3.box⟩
theorem Dw (hR:aD A D w) (s:Nat) (F:Nat):
 zk 132 #[R A.Y 0,R (A.bt s) 0,R (A.bc s) 0,zu F] w (aZ A w s (D,.own F)):=by
 have zo:=U (jB hR #[R A.Y 0] 32 #[R (A.bt s) 0] 100 #[R (A.bc s) 0] 105 #[zu F] 25);clear hR;go_enter Tryz.func132,Tryz.ntmps132;go_wp2;go_ret;obtain⟨r1,r2,f0,f1,f2,f3⟩:=zo.out;exact⟨A,_,rfl,r1,r2,bL.refl _ _,_,_,_,_,rfl,f0.box,f3.box,f1.box,f2.box⟩
theorem wK (hR:aD A D w) (s:Nat) (F:Nat) (x:Nat):
 zk 156 #[R A.Y 0,R (A.bt s) 0,R (A.bc s) 0,zu F,zu x] w (aZ A w s (D,.claim F x)):=by
 have zo:=U (jY hR #[R A.Y 0] 32 #[R (A.bt s) 0] 100 #[R (A.bc s) 0] 105 #[zu F] 25 #[zu x] 25);clear hR;go_enter Tryz.func156,Tryz.ntmps156;go_wp2;go_ret;obtain⟨r1,r2,f0,f1,f2,f3,f4⟩:=zo.out;exact⟨A,_,rfl,r1,r2,bL.refl _ _,_,_,_,_,_,rfl,f0.box,f3.box,f4.box,f1.box,f2.box⟩
theorem F8 (hR:aD A D w) (s:Nat) (F:Nat) (head:Nat):
 zk 170 #[R A.Y 0,R (A.bt s) 0,R (A.bc s) 0,zu F,zu head] w (aZ A w s (D,.push F head)):=by
 have zo:=U (jY hR #[R A.Y 0] 32 #[R (A.bt s) 0] 100 #[R (A.bc s) 0] 105 #[zu F] 25 #[zu head] 25);clear hR;go_enter Tryz.func170,Tryz.ntmps170;go_wp2;go_ret;obtain⟨r1,r2,f0,f1,f2,f3,f4⟩:=zo.out;exact⟨A,_,rfl,r1,r2,bL.refl _ _,_,_,_,_,_,rfl,f0.box,f3.box,f4.box,f2.box,f1.box⟩
theorem F9 (hR:aD A D w) (s:Nat) (r:ic) (vp:Value) (hp:(vp=A.aR s∧r.aB=(D.c s).r.aB)∨(vp=.slice none 0 0∧r.aB=[])):
 zk 113 #[R A.Y 0,R (A.bc s) 0,.agg #[I r.e,I r.value,vp,I r.over,I r.ay]] w (aZ A w s (D,.fin r)):=by
 have zo:=U (iO hR #[R A.Y 0] 32 #[R (A.bc s) 0] 105 #[I r.e,I r.value,vp,I r.over,I r.ay] 46);have HP:=U hp;clear hR hp;go_enter Tryz.func113,Tryz.ntmps113;go_wp2;go_ret;obtain⟨r1,r2,f0,f1,f2⟩:=zo.out;exact⟨A,_,rfl,r1,r2,bL.refl _ _,_,_,_,rfl,f0.box,f1.box,_,_,f2,HP.out⟩
theorem iE (hR:aD A D w) (s:Nat) (r:ic) (re rv ro rr:Int) (vp:Value) (hcs:zK r vp=[I re,I rv,vp,I ro,I rr]) (hp:(vp=A.aR s∧r.aB=(D.c s).r.aB)∨(vp=.slice none 0 0∧r.aB=[])):
 zk 113 #[R A.Y 0,R (A.bc s) 0,.agg #[I re,I rv,vp,I ro,I rr]] w (aZ A w s (D,.fin r)):=by
 have h:=F9 hR s r vp hp;simp only[zK,List.cons.injEq,Value.int.injEq,true_and,and_true] at hcs;obtain⟨e1,e2,e3,e4⟩:=hcs;rw[e1,e2,e3,e4] at h;exact h
end Go.Proofs.YthicolbbmjfkfaaGreat.Em
namespace Go.Proofs.YthicolbbmjfkfaaGreat.Ow
open Go.ChangeShapes Go.WideShapes Go.ChangeAt Go.RowKit
theorem own_below {w H:World} {base:Nat} {e:TypeId} {size:Nat} {v:Value} {n:Nat} {xs:List Value} (h:w.ownsRow base e size v n xs) (Z:Below w.heap.size w H):H.ownsRow base e size v n xs:=by
 refine⟨h.1,?_⟩
 rcases h.2 with h0|⟨g,cap,cur,h1,h2,h3,h4⟩
 . exact .inl h0
 . refine .inr ⟨g,cap,cur,h1,h2,?_,h4⟩
   have hlt:g<w.heap.size:=(Array.getElem?_eq_some_iff.1 h3).1;rw[Z.block g hlt,h3]
def Row (w:World) (base size:Nat) (v:Value) (xs:List Value):Prop:=
 ∃ a n cap,v=.slice a n cap∧xs.length=n*size∧n<=cap∧cap<=maxLen∧(n=0∨∃ g off,a=some ⟨g,off,none⟩∧base<=g∧g<w.heap.size∧∀ j,j<n*size->w.cell? ⟨g,off+j,none⟩=xs[j]?)
theorem Row.below {w H:World} {base size:Nat} {v:Value} {xs:List Value} (h:Row w base size v xs) (Z:Below w.heap.size w H):Row H base size v xs:=by
 obtain⟨a,n,cap,h1,h2,h3,h4,h5⟩:=h;refine⟨a,n,cap,h1,h2,h3,h4,?_⟩
 rcases h5 with h5|⟨g,off,e1,e2,e3,e4⟩
 . exact .inl h5
 . refine .inr ⟨g,off,e1,e2,qW e3 Z.size,fun j hj=>?_⟩
   rw[Z.cell (p:=⟨g,off+j,none⟩) e3];exact e4 j hj
theorem bD {w:World} {base:Nat} {e:TypeId} {size:Nat} {v:Value} {n:Nat} {xs:List Value} (h:w.ownsRow base e size v n xs):∃ a cap,v=.slice a n cap∧n<=cap∧cap<=9223372036854775807∧Row w base size (.slice a n n) xs:=by
 rcases h.2 with ⟨h0,hn⟩|⟨g,cap,cur,h1,h2,h3,h4,h5,h6,h7⟩
 . subst hn;exact⟨none,0,h0,by omega,by omega,none,0,0,rfl,h.1,by omega,by unfold maxLen;omega,.inl rfl⟩
 . have hm:=h5
   unfold maxLen at hm;refine⟨some ⟨g,0,none⟩,cap,h1,h4,hm,some ⟨g,0,none⟩,n,n,rfl,h.1,by omega,by omega,.inr ⟨g,0,rfl,h2,(Array.getElem?_eq_some_iff.1 h3).1,fun j hj=>?_⟩⟩;subst h1;rw[Nat.zero_add];exact h.cellAt j hj
theorem iF (w:World) (cs:List Value) (T:TypeId) (g:Nat) (hg:g=w.heap.size) (j:Nat) (u:Value) (h:cs[j]? =some u):(w.alloc (.cells cs.toArray T)).cell? ((⟨g,0,none⟩:Addr).add j)=some u:=by
 subst hg;have e:(⟨w.heap.size,0,none⟩:Addr).add j=⟨w.heap.size,j,none⟩:=by simp[Addr.add];exact fun h=>h.symm
 rw[e,World.cell?_alloc_at _ _ _ _ rfl]
 simpa using h
theorem nX {w H w2:World} {base:Nat} {e:TypeId} {size:Nat} {v:Value} {n:Nat} {xs:List Value} (h:H.ownsRow base e size v n xs) (Z:Below base w H) (hs:base<=H.heap.size) (hg:H.grownBy w2 v.ownBlock):Below base w w2:=
 Z.grown hg hs (fun k V=>(h.lt k V).1)
theorem tV {w H w2:World} (h:Below w.heap.size w H) (k:Below H.heap.size H w2):Below w.heap.size w w2:=h.trans (k.mono h.size)
theorem sN {P:Program} {w:World} (base:Nat) (t ty e:TypeId) (i:TypeInfo) (size:Nat) (ht:P.underlying t=some (.slice e)) (hi:P.info? e=some i)
 (v:Value) (n c:Nat) (xs:List Value) (aS:w.ownsRow base e size v n xs):
 (Builtin.append_ #[t,t] ty #[v,.slice none 0 c]).run P w=.ok v w:=by
 rcases aS.2 with ⟨rfl,rfl⟩|⟨g,cap,cur,rfl,_,_,hnc,_⟩
 . simp[Builtin.append_,run_underlying ht,sizeOf,typeInfo,hi,Builtin.lenOf,Builtin.firstCells]
 . simp[Builtin.append_,run_underlying ht,sizeOf,typeInfo,hi,Builtin.lenOf,Builtin.firstCells,hnc,storeCells]
theorem dK {P:Program} {ops:Array Oper} {rest:List Oper} {o:Oper} {a:Act} {Q:Exit->Act->World->Prop} (w:World) (hgd:o.guard=none) (s x:Operand) (t:TypeId)
 (ho:o.op=.call {callee:=.builtin .append,args:=#[s,x],argTypes:=#[t,t]})
 (base:Nat) (e:TypeId) (i:TypeInfo) (z:Value) (size bytes:Nat) (ht:P.underlying t=some (.slice e)) (hi:P.info? e=some i) (hz:i.zero=some z)
 (hsize:i.size=size) (hby:i.bytes=bytes) (hzs:z.cells.size=size) (hsz:0<size)
 (v:Value) (n:Nat) (xs:List Value) (hs:a.eval s=v) (aS:w.ownsRow base e size v n xs)
 (bx:Nat) (xv:Value) (news:List Value) (hx:a.eval x=xv) (hr:Row w bx size xv news) (m:Nat) (hl:news.length=m*size) (h1:∀ u∈news,u.oneCell'=true)
 (h63:n+m<=maxLen) (hbytes:(n+m)*bytes<=140737488355328) (hbase:base<=w.heap.size)
 (h:∀ v' G,G.ownsRow base e size v' (n+m) (xs++news)->w.grownBy G v.ownBlock->wpList P ops Q rest (a.put o.dst v') G):wpList P ops Q (o::rest) a w:=by
 obtain⟨ao,m',c,rfl,hm',hmc,hcm,hcell⟩:=hr;obtain rfl:m=m':=by
  rw[hl] at hm';exact Nat.eq_of_mul_eq_mul_right hsz hm'
 cases ao with
 |none=>
  have hm0:m=0:=by
   rcases hcell with h0|⟨g,off,h0,_⟩
   . exact h0
   . cases h0
  subst hm0;obtain rfl:news=[]:=List.eq_nil_of_length_eq_zero (by simpa using hl);refine wpList_plain hgd fun K hK=>?_
  have aN:=sN (P:=P) (w:=w) base t o.type e i size ht hi v n c xs aS;unfold Oper.wp;simp[execOp,ho,resolve,invoke,builtin,hs,hx,aN,Result.andThen];exact hK _ _ (h v w (by simpa using aS) ⟨rfl,rfl,rfl,zr _,fun _ _ _=>rfl⟩)
 |some ad=>
  have hnews:∀ j u,news[j]? =some u->w.cell? (ad.add j)=some u:=by
   intro j u hj;have hjl:j<news.length:=(List.getElem?_eq_some_iff.1 hj).1
   rcases hcell with h0|⟨g,off,h0,_,_,hc⟩
   . subst h0;omega
   . simp only[Option.some.injEq] at h0
     subst h0;have e1:(⟨g,off,none⟩:Addr).add j=⟨g,off+j,none⟩:=by
      unfold Addr.add;split
      . rename_i h;subst h;rfl
      . rfl
     rw[e1,hc j (by omega)];exact hj
  exact wpList_append_own w hgd s x t ho base e i z size bytes ht hi hz hsize hby hzs hsz v n xs hs aS ad m c news hx hl hnews h1 h63 hbytes hbase fun v' G h2 h3 _=>h v' G h2 h3
theorem qy {P:Program} (w:World) (base:Nat) (t ty e:TypeId) (i:TypeInfo) (z:Value) (size bytes:Nat) (ht:P.underlying t=some (.slice e)) (hi:P.info? e=some i) (hz:i.zero=some z)
 (hsize:i.size=size) (hby:i.bytes=bytes) (hzs:z.cells.size=size) (hsz:0<size)
 (v:Value) (n:Nat) (xs:List Value) (aS:w.ownsRow base e size v n xs)
 (a:Addr) (m c:Nat) (hm:0<m) (news:List Value) (hl:news.length=m*size) (hnews:∀ j u,news[j]? =some u->w.cell? (a.add j)=some u) (h1:∀ u∈news,u.oneCell'=true)
 (h63:n+m<=maxLen) (hbytes:(n+m)*bytes<=140737488355328) (v':Value) (G:World)
 (hr':(Builtin.append_ #[t,t] ty #[v,.slice (some a) m c]).run P w=.ok v' G):
 v'.ownBlock=v.ownBlock∨∀ g,v'.ownBlock=some g->w.heap.size<=g:=by
 subst hsize;subst hby;have hsmall:n+m<=9223372036854775807:=by simp only[maxLen] at h63;omega
 rcases aS.2 with ⟨rfl,rfl⟩|⟨g,cap,cur,rfl,hbg,hg,hnc,hcm,hcs,htake⟩
 . have hr:=run_append_nil (P:=P) w t ty e i z ht hi hz a m c news hl hnews (by omega) (by omega) (by have Z:=hbytes;simp only[Nat.zero_add] at Z;omega)
   rw[hr] at hr';injection hr' with e1 e2
   subst e1;right;intro g hg;simp only[Value.ownBlock,Option.some.injEq] at hg;omega
 . by_cases hroom:n+m<=cap
   . have hfit:n*i.size+news.length<=cur.size:=by rw[hl,hcs,<-Nat.add_mul];exact Nat.mul_le_mul_right _ hroom
     have hr:=run_append_room (P:=P) w t ty e i ht hi g n cap cur hg a m c news hl hnews h1 hroom hfit;rw[hr] at hr';injection hr' with e1 e2
     subst e1;left;rfl
   . have holds:∀ j u,xs[j]? =some u->w.cell? ((⟨g,0,none⟩:Addr).add j)=some u:=aS.cells (g:=g) rfl
     have hr:=run_append_grow (P:=P) w t ty e i z ht hi hz ⟨g,0,none⟩ n cap xs aS.1 holds a m c news hl hnews (by omega) (by omega) (growslice_fits (by omega) hbytes);rw[hr] at hr';injection hr' with e1 e2
     subst e1;right;intro g hg;simp only[Value.ownBlock,Option.some.injEq] at hg;omega
theorem dH {P:Program} {ops:Array Oper} {rest:List Oper} {o:Oper} {a:Act} {Q:Exit->Act->World->Prop} (w:World) (hgd:o.guard=none) (s x:Operand) (t:TypeId)
 (ho:o.op=.call {callee:=.builtin .append,args:=#[s,x],argTypes:=#[t,t]})
 (base:Nat) (e:TypeId) (i:TypeInfo) (z:Value) (size bytes:Nat) (ht:P.underlying t=some (.slice e)) (hi:P.info? e=some i) (hz:i.zero=some z)
 (hsize:i.size=size) (hby:i.bytes=bytes) (hzs:z.cells.size=size) (hsz:0<size)
 (v:Value) (n:Nat) (xs:List Value) (hs:a.eval s=v) (aS:w.ownsRow base e size v n xs)
 (ad:Addr) (m c:Nat) (hm:0<m) (news:List Value) (hx:a.eval x=.slice (some ad) m c) (hl:news.length=m*size) (hnews:∀ j u,news[j]? =some u->w.cell? (ad.add j)=some u) (h1:∀ u∈news,u.oneCell'=true)
 (h63:n+m<=maxLen) (hbytes:(n+m)*bytes<=140737488355328) (hbase:base<=w.heap.size)
 (h:∀ v' G,G.ownsRow base e size v' (n+m) (xs++news)->w.grownBy G v.ownBlock->(v'.ownBlock=v.ownBlock∨∀ g,v'.ownBlock=some g->w.heap.size<=g)->wpList P ops Q rest (a.put o.dst v') G):
 wpList P ops Q (o::rest) a w:=by
 refine wpList_plain hgd fun _ hK=>?_
 obtain⟨v',G,hr,h2,h3,_⟩:=run_append_own (P:=P) w base t o.type e i z size bytes ht hi hz hsize hby hzs hsz v n xs aS ad m c news hl hnews h1 h63 hbytes hbase;have h4:=qy (P:=P) w base t o.type e i z size bytes ht hi hz hsize hby hzs hsz v n xs aS ad m c hm news hl hnews h1 h63 hbytes v' G hr;unfold Oper.wp execOp;simp only[ho,resolve,invoke,builtin,Sem.run_bind,Sem.run_pure,Result.andThen_ok,List.map_toArray,List.map_cons,List.map_nil,hs,hx,hr];exact hK _ _ (h v' G h2 h3 h4)
theorem kM {P:Program} (w:World) {o:Oper} {a:Act} {K:Act->World->Prop} {Q:Exit->Act->World->Prop} (s x:Operand) (t:TypeId)
 (ho:o.op=.call {callee:=.builtin .append,args:=#[s,x],argTypes:=#[t,t]})
 (base:Nat) (e:TypeId) (i:TypeInfo) (z:Value) (size bytes:Nat) (ht:P.underlying t=some (.slice e)) (hi:P.info? e=some i) (hz:i.zero=some z)
 (hsize:i.size=size) (hby:i.bytes=bytes) (hzs:z.cells.size=size) (hsz:0<size)
 (v:Value) (n:Nat) (xs:List Value) (hs:a.eval s=v) (aS:w.ownsRow base e size v n xs)
 (ad:Addr) (m c:Nat) (hm:0<m) (news:List Value) (hx:a.eval x=.slice (some ad) m c) (hl:news.length=m*size) (hnews:∀ j u,news[j]? =some u->w.cell? (ad.add j)=some u) (h1:∀ u∈news,u.oneCell'=true)
 (h63:n+m<=maxLen) (hbytes:(n+m)*bytes<=140737488355328) (hbase:base<=w.heap.size)
 (h:∀ v' G,G.ownsRow base e size v' (n+m) (xs++news)->w.grownBy G v.ownBlock->(v'.ownBlock=v.ownBlock∨∀ g,v'.ownBlock=some g->w.heap.size<=g)->K (a.put o.dst v') G):o.wp P a w K Q:=by
 obtain⟨v',G,hr,h2,h3,_⟩:=run_append_own (P:=P) w base t o.type e i z size bytes ht hi hz hsize hby hzs hsz v n xs aS ad m c news hl hnews h1 h63 hbytes hbase;have h4:=qy (P:=P) w base t o.type e i z size bytes ht hi hz hsize hby hzs hsz v n xs aS ad m c hm news hl hnews h1 h63 hbytes v' G hr;unfold Oper.wp execOp;simp only[ho,resolve,invoke,builtin,Sem.run_bind,Sem.run_pure,Result.andThen_ok,List.map_toArray,List.map_cons,List.map_nil,hs,hx,hr];exact h v' G h2 h3 h4
end Go.Proofs.YthicolbbmjfkfaaGreat.Ow
namespace Go.Proofs.YthicolbbmjfkfaaGreat.Em
open Go.ChangeShapes Go.WideShapes Go.ChangeAt Go.RowKit En
variable {A:au} {D:St} {w:World}
def Does (A:au) (w:World) (s:Nat) (bE:St) (v:Value):Ending->World->Prop:=fun e G=>
 e=.returned v∧∃ A',aD A' bE G∧Grow A.L w A'.L G∧bL A A' s∧A'.bx=A.bx∧A'.aR=A.aR
theorem yc {A A':au} {D bE:St} {s:Nat} (st:bL A A' s) (h1:A'.bx=A.bx) (h2:A'.aR=A.aR) (h3:(bE.c s).op.E=(D.c s).op.E) (h4:(bE.c s).r.aB=(D.c s).r.aB):kp A' bE s=kp A D s:=by
 unfold kp;rw[st.Y,st.bt,st.bc,h1,h2,h3,h4]
theorem info_parts {P:Program} {t:TypeId} {z:Value} {s b:Nat} (h:(P.info? t).map (fun i=>(i.zero,i.size,i.bytes))=some (some z,s,b)):∃ i,P.info? t=some i∧i.zero=some z∧i.size=s∧i.bytes=b:=by
 cases hi:P.info? t with
 |none=>rw[hi] at h;cases h
 |some i=>
  rw[hi] at h;simp only[Option.map_some,Option.some.injEq,gZ] at h;exact⟨i,rfl,h.1,h.2.1,h.2.2⟩
theorem nY {l:Nat} (h1:1<=l % 131072):((aj l:Nat):Int)=(l:Int) % 131072 - 1:=by unfold aj;omega
theorem kZ (hR:aD A D w) (l:Nat) (h1:1<=l % 131072) (h2:l % 131072<=D.aC) (hl:l<18446744073709551616):
 zk 87 #[R A.Y 0,zu l] w fun e G=>e=.returned (.pointer (some ⟨A.bv,2*aj l,none⟩))∧w=G:=by
 have c4:w.cell? (J A.Y 4)=some (.slice (some (J A.bv 0)) D.aC D.aC):=hR.eH 4 rfl;have hu:=Word.mW (l:Int) (by omega) (by omega) w;rw[<-nY h1] at hu;have hi:aj l<D.aC:=by unfold aj;omega
 have hsl:=hR.sl;generalize aj l=i at*;generalize hn:D.aC=n at*;have b1:(i:Int)<(n:Int):=by omega
 have b0:(0:Int)<=(i:Int):=by omega
 have HU:=U hu;clear hR h1 h2 hl hi hn hu;go_enter Tryz.func87,Tryz.ntmps87;go_wp2_with (go_at_call 107;refine HU.out.mono ?_;rintro e G ⟨rfl,rfl⟩);go_ret;refine⟨?_,rfl⟩
 first|rfl|(simp[Nat.mul_comm];done)
theorem jA.form {p:KP} {L:cZ} {w:World} {v:Value} {E:Nat} {t:Ls} (h:jA p L w v E t):∃ f c,v=.func (.func f) #[] c:=by
 cases t
 . obtain⟨b0,b1,b2,b3,e,_⟩:=h;exact⟨_,_,e⟩
 . obtain⟨b0,b1,b2,b3,b4,e,_⟩:=h;exact⟨_,_,e⟩
 . obtain⟨b0,b1,b2,b3,e,_⟩:=h;exact⟨_,_,e⟩
 . obtain⟨b0,b1,b2,b3,b4,e,_⟩:=h;exact⟨_,_,e⟩
theorem qz (hR:aD A D w) (s E at_:Nat) (vt:Value) (thn:Ls) (hv:jA (kp A D s) A.L w vt E thn):
 zk 114 #[R A.Y 0,R (A.bt s) 0,I E,zu at_,vt] w (aZ A w s (D,.start ⟨E,at_,thn⟩)):=by
 obtain⟨fv,cv,rfl⟩:=hv.form;have zo:=U (cB hR #[R A.Y 0,R (A.bt s) 0,I E,zu at_,.func (.func fv) #[] cv] 248);have HV:=U hv;clear hR hv;go_enter Tryz.func114,Tryz.ntmps114;go_wp2;go_ret;obtain⟨r1,r2,f0⟩:=zo.out;exact⟨A,_,rfl,r1,r2,bL.refl _ _,_,rfl,_,_,f0,HV.out.grow r2⟩
theorem Om:(Tryz.prog.info? 250).map (fun i=>(i.zero,i.size,i.bytes))=some (some (.agg #[I 0,zu 0,.bool false]),3,24):=by kernel_rfl
theorem mD (hR:aD A D w) (s:Nat) (t:bB) (ht:D.ag.getD s none=some t) (E F:Nat) (got:Bool) (hn:t.reads.length<1000000):
 zk 116 #[R (A.bt s) 0,I E,zu F,.bool got] w (Does A w s (D.read s E F got) (.tuple #[])):=by
 have c8:w.cell? (J (A.bt s) 8)=some (A.eu s):=hR.dZ ht 8 rfl;have z8:=hR.tH ht 8;have hA:=hR.alloc (.cells #[I E,zu F,.bool got] 250);have aS:=hA.mem.all (.reads s);rw[mem_reads ht] at aS;have ho:=aS.1;obtain⟨av,iJ,hv,_⟩:=Ow.bD ho;have hst:D.read s E F got=D.bq s {t with reads:=t.reads++[(E,F,got)]}:=by unfold St.read;rw[bQ ht]
 rw[hst];have e2:jc (t.reads++[(E,F,got)])=jc t.reads++[I E,zu F,.bool got]:=by simp[jc]
 have hlen:(t.reads++[(E,F,got)]).length=t.reads.length+1:=by simp
 have Qp:0<=(w.alloc (.cells #[I E,zu F,.bool got] 250)).heap.size:=zz _;rw[hv] at c8;have HA:=U (zA hA (Grow.alloc A.L w (.cells #[I E,zu F,.bool got] 250)));have HT:=U ht;have HV:=U hv;have HE:=U (zA e2 hlen);rw[hv] at ho;clear hR hA ht aS hst hv e2 hlen;generalize hrl:t.reads.length=n at*;have HN:=U hrl;clear hrl;obtain⟨i0,hi,hz0,hz1,hz2⟩:=info_parts Om;go_enter Tryz.func116,Tryz.ntmps116;go_wp2_with (at_builtin;refine Ow.dH _ rfl (.tmp 12) (.tmp 17) 117 rfl 0 _ i0 _ 3 24 Tryz.underlying117 hi hz0 hz1 hz2 rfl (by decide) (.slice av n iJ) n (jc t.reads) rfl ho (J w.heap.size 0) 1 1 (by omega) [I E,zu F,.bool got] rfl rfl ?c1 (by intro u hu;simp at hu;rcases hu with rfl|rfl|rfl<;>rfl) (by unfold maxLen;omega) (by omega) Qp ?_)
 case c1=>exact Ow.iF w [I E,zu F,.bool got] _ _ rfl
 intro v' w2 hown2 hg2 SI;obtain⟨hA,hG⟩:=HA.out;obtain⟨e2,hlen⟩:=HE.out;obtain⟨a4,cap4,hv4,_⟩:=Ow.bD hown2;have hrow:=hA.IW HT.out (t.reads++[(E,F,got)]) v' (by rw[HV.out];exact hg2) (by rw[e2,hlen];exact hown2) (by rw[HV.out,jh];exact SI);have HO:=U (zA hrow.1 hrow.2.1);have Vx:=U hv4;obtain⟨_,_,Uj,z82⟩:=hrow;rw[HV.out] at Uj;clear hA hG e2 hlen hown2 hg2 SI ho c8 z8 hn Qp;subst hv4;go_wp2_with fail
 go_end0
 obtain⟨r1,r2⟩:=HO.out;exact⟨rfl,_,r1,HA.out.2.trans r2,⟨rfl,rfl,rfl,rfl,rfl,rfl,rfl,rfl,rfl,rfl,rfl,fun _ _=>rfl,fun _ _=>rfl⟩,rfl,rfl⟩
theorem Oo:(Tryz.prog.info? 62).map (fun i=>(i.zero,i.size,i.bytes))=some (some (.agg #[I 0,I 0,zu 0,I 0,I 0,I 0,I 0,I 0,I 0,.slice none 0 0,I 0,I 0]),12,112):=by kernel_rfl
theorem pM {w G:World} {row:Option Nat} (h:w.drew.grownBy G row):w.grownBy G row:=⟨h.os,h.tape,h.output,h.size,h.block⟩
theorem kW (hR:aD A D w) (s:Nat) (e:Ev) (k t n ok oy oh ov re rv ro rr:Int) (a:Option Addr) (pn pc:Nat) (hcs:lK e (.slice a pn pc)=[Value.int .i64 k,I t,zu n,I ok,I oy,I oh,I ov,I re,I rv,.slice a pn pc,I ro,I rr])
 (hp:jL A.L w (.slice a pn pc) (bI e.res.aB)) (hn:D.aP.length<1000000):
 zk 50 #[R A.Y 0,.agg #[Value.int .i64 k,I t,zu n,I ok,I oy,I oh,I ov,I re,I rv,.slice a pn pc,I ro,I rr]] w (Does A w s (D.event e) (.tuple #[])):=by
 obtain⟨h1,g1,_⟩:=cB hR #[Value.int .i64 k,I t,zu n,I ok,I oy,I oh,I ov,I re,I rv,.slice a pn pc,I ro,I rr] 62;have c24:(w.alloc (.cells #[Value.int .i64 k,I t,zu n,I ok,I oy,I oh,I ov,I re,I rv,.slice a pn pc,I ro,I rr] 62)).cell? (J A.Y 24)=some A.iT:=h1.eH 24 rfl;obtain⟨h2,g2,_,_⟩:=kL hR #[Value.int .i64 k,I t,zu n,I ok,I oy,I oh,I ov,I re,I rv,.slice a pn pc,I ro,I rr] 62 #[Value.int .i64 k,I t,zu n,I ok,I oy,I oh,I ov,I re,I rv,.slice a pn pc,I ro,I rr] 62;have hd:aD A D ((w.alloc (.cells #[Value.int .i64 k,I t,zu n,I ok,I oy,I oh,I ov,I re,I rv,.slice a pn pc,I ro,I rr] 62)).alloc (.cells #[Value.int .i64 k,I t,zu n,I ok,I oy,I oh,I ov,I re,I rv,.slice a pn pc,I ro,I rr] 62)):=h2;have Uk:((w.alloc (.cells #[Value.int .i64 k,I t,zu n,I ok,I oy,I oh,I ov,I re,I rv,.slice a pn pc,I ro,I rr] 62)).alloc (.cells #[Value.int .i64 k,I t,zu n,I ok,I oy,I oh,I ov,I re,I rv,.slice a pn pc,I ro,I rr] 62)).cell? (J A.Y 24)=some A.iT:=h2.eH 24 rfl;have aS:=(hd.mem.all .aP).1;obtain⟨av,iJ,hv,_⟩:=Ow.bD aS;rw[hv] at c24 Uk aS;have zo:∀ v' w2,w2.ownsRow 0 62 12 v' (D.aP.length+1) (A.fH++[Value.int .i64 k,I t,zu n,I ok,I oy,I oh,I ov,I re,I rv,.slice a pn pc,I ro,I rr])->((w.alloc (.cells #[Value.int .i64 k,I t,zu n,I ok,I oy,I oh,I ov,I re,I rv,.slice a pn pc,I ro,I rr] 62)).alloc (.cells #[Value.int .i64 k,I t,zu n,I ok,I oy,I oh,I ov,I re,I rv,.slice a pn pc,I ro,I rr] 62)).grownBy w2 A.iT.ownBlock->(v'.ownBlock=A.iT.ownBlock∨∀ g,v'.ownBlock=some g->((w.alloc (.cells #[Value.int .i64 k,I t,zu n,I ok,I oy,I oh,I ov,I re,I rv,.slice a pn pc,I ro,I rr] 62)).alloc (.cells #[Value.int .i64 k,I t,zu n,I ok,I oy,I oh,I ov,I re,I rv,.slice a pn pc,I ro,I rr] 62)).heap.size<=g)->
  (∃ A',aD A' (D.event e) (w2.setCell (J A.Y 24) v')∧Grow A.L w A'.L (w2.setCell (J A.Y 24) v')∧bL A A' s∧A'.bx=A.bx∧A'.aR=A.aR)∧w2.cell? (J A.Y 24)=some A.iT∧w2.frozen? (J A.Y 24)=false:=by
  intro v' w2 q1 q2 q3;obtain⟨r1,r2,r3,r4⟩:=hd.IY e _ v' (hp.grow g2) q2 (by rw[hcs];exact q1) q3;exact⟨⟨_,r1,g2.trans r2,⟨rfl,rfl,rfl,rfl,rfl,rfl,rfl,rfl,rfl,rfl,rfl,fun _ _=>rfl,fun _ _=>rfl⟩,rfl,rfl⟩,r3,r4⟩
 have hos:=jh (w.alloc (.cells #[Value.int .i64 k,I t,zu n,I ok,I oy,I oh,I ov,I re,I rv,.slice a pn pc,I ro,I rr] 62)) (.cells #[Value.int .i64 k,I t,zu n,I ok,I oy,I oh,I ov,I re,I rv,.slice a pn pc,I ro,I rr] 62);rw[jh] at hos;rw[hv] at zo;have HF:=U zo;have HO:=U aS;have HS:=U hos;obtain⟨i0,hi,hz0,hz1,hz2⟩:=info_parts Oo;clear hR h1 g1 h2 g2 hd hv hp hcs zo aS hos;generalize A.fH=xs at*;generalize D.aP.length=len at*;go_enter Tryz.func50,Tryz.ntmps50;go_wp2_with fail
 go_region_law (first|(refine Ow.kM _ (.tmp 8) (.tmp 10) 52 rfl 0 _ i0 _ 12 112 Tryz.underlying52 hi hz0 hz1 hz2 rfl (by decide) (.slice av len iJ) len xs rfl HO.out ⟨w.heap.size+1,0,none⟩ 1 1 (by omega) [Value.int .i64 k,I t,zu n,I ok,I oy,I oh,I ov,I re,I rv,.slice a pn pc,I ro,I rr] rfl rfl (by intro j u hu;exact Ow.iF (w.alloc (.cells #[Value.int .i64 k,I t,zu n,I ok,I oy,I oh,I ov,I re,I rv,.slice a pn pc,I ro,I rr] 62)) [Value.int .i64 k,I t,zu n,I ok,I oy,I oh,I ov,I re,I rv,.slice a pn pc,I ro,I rr] _ _ (jh _ _).symm j u hu) (by intro u hu;simp at hu;rcases hu with rfl|rfl|rfl|rfl|rfl|rfl|rfl|rfl|rfl|rfl|rfl|rfl<;>rfl) (by unfold maxLen;omega) (by omega) (zz _) ?_;intro v' w2 q1 q2 q3;obtain⟨r1,r2,r3⟩:=HF.out v' w2 q1 (pM q2) q3;obtain⟨a4,cap4,rfl,_⟩:=Ow.bD q1;have R1:=U r1;clear r1 q1 q2 q3))
 all_goals (go_end0;exact⟨rfl,R1.out⟩)
theorem Ga {x:Nat} (h1:x<=1099511627776):rd x=(1,x):=aV h1
theorem zM:rd 2305843009213693952=(3,0):=by decide
theorem pO {x:Nat} (h3:4611686018427387904<x∧x<=4611686018427453439):rd x=(2,x - 4611686018427387904):=by
 unfold rd tm ever mO;rw[aX (by omega),aX (by omega),aV (by omega)]
theorem Dx {x:Nat} (h1:¬ x<=1099511627776) (h2:¬ x=2305843009213693952) (h3:¬ (4611686018427387904<x∧x<=4611686018427453439)):rd x=(0,0):=by
 unfold rd tm ever mO;rw[aX (by omega),aX (by omega),aX (by omega)]
theorem Dy (x:Nat):Word.Qn (x:Int)=((rd x).1:Int)∧Word.Qo (x:Int)=((rd x).2:Int):=by
 unfold Word.Qn Word.Qo
 by_cases h1:x<=1099511627776
 . have i1:(x:Int)<=1099511627776:=by omega
   rw[Ga h1];simp only[aV i1];exact⟨rfl,trivial⟩
 . have i1:¬ (x:Int)<=1099511627776:=by omega
   by_cases h2:x=2305843009213693952
   . subst h2
     rw[zM];exact⟨by decide,by decide⟩
   . have i2:¬ (x:Int)=2305843009213693952:=by omega
     by_cases h3:4611686018427387904<x∧x<=4611686018427453439
     . have i3:4611686018427387904<(x:Int)∧(x:Int)<=4611686018427453439:=by omega
       rw[pO h3];simp only[aX i1,aX i2,aV i3];exact⟨rfl,by omega⟩
     . have i3:¬ (4611686018427387904<(x:Int)∧(x:Int)<=4611686018427453439):=by omega
       rw[Dx h1 h2 h3];simp only[aX i1,aX i2,aX i3];exact⟨rfl,rfl⟩
theorem tX (x:Nat) (hx:x<18446744073709551616):(rd x).1<=3∧((rd x).1=2->(rd x).2<=65535)∧(rd x).2<18446744073709551616:=by
 by_cases h1:x<=1099511627776
 . rw[Ga h1];exact⟨by simp only;omega,by simp only;omega,hx⟩
 . by_cases h2:x=2305843009213693952
   . subst h2;rw[zM];exact⟨by decide,by decide,by decide⟩
   . by_cases h3:4611686018427387904<x∧x<=4611686018427453439
     . rw[pO h3];exact⟨by simp only;omega,by simp only;omega,by simp only;omega⟩
     . rw[Dx h1 h2 h3];exact⟨by simp only;omega,by simp only;omega,by simp only;omega⟩
theorem yf (x:Nat) (hx:x<18446744073709551616) (w:World):zk 108 #[zu x] w fun e G=>e=.returned (.agg #[I ((rd x).1:Int),zu ((rd x).2:Int)])∧Below w.heap.size w G:=by
 have h:=Word.mD (x:Int) (by omega) (by omega) w;rw[(Dy x).1,(Dy x).2] at h;exact h
theorem Fix.cell {L:cZ} {w:World} {b:Nat} {cs:Array Value} {T:TypeId} (h:Fix L w b (.cells cs T)) (i:Nat) {v:Value} (hv:cs[i]? =some v):w.cell? (J b i)=some v:=by rw[cell_of_row w b i _ _ _ h.2];exact hv
theorem Ew (hR:aD A D w) (s:Nat) (t:bB) (ht:D.ag.getD s none=some t) (bh:Nat) (hu:dw) (hh:dE (kp A D s) A.L w bh hu) (F x:Nat) (hx:x<18446744073709551616):
 zk 183 #[R bh 0,zu F,zu x] w (aZ A w s (D,D.jb s hu F x)):=by
 obtain⟨hk3,hk2,hnb⟩:=tX x hx;have hrd:=yf x hx;obtain⟨r1,g1,f0,f1⟩:=kL hR #[R bh 0] 246 #[zu F] 25;have hid:(D.t s).id=t.id:=by rw[bQ ht]
 unfold St.jb;rw[hid];generalize hK:(rd x).1=k at*;generalize hN:(rd x).2=n at*;have qA:=hh.grow g1;have HR:=U (zA r1 g1);have HX:=U hrd;have HF:=U (zA f0 (zA f1 qA));have HT:=U ht;clear r1 g1 f0 f1 qA hh hR hrd ht hx hK hN hid
 by_cases k1:k=1
 . subst k1
   clear hk3 hk2
   by_cases hn:n<=hu.at_
   . rw[aV ⟨rfl,hn⟩]
     have d1:decide ((n:Int)<=(hu.at_:Int))=true:=by simpa using hn
     have d2:decide (n<=hu.at_)=true:=by simpa using hn
     clear hn hnb;go_enter Tryz.func183,Tryz.ntmps183;go_wp2_with (go_at_call 108;refine (HX.out _).mono ?_;rintro e w2 ⟨rfl,hq⟩);obtain⟨r1,g1⟩:=HR.out;obtain⟨f0,f1,qA⟩:=HF.out;obtain⟨r3,g3,f2⟩:=cB (r1.below hq) #[I 1,zu n] 217;have gq:=(Grow.below (L:=A.L) hq).trans g3;have F0:=f0.grow gq;have F1:=f1.grow gq;have hh3:=qA.grow gq;have c0:=F0.cell 0 rfl;have c1:=F1.cell 0 rfl;have s0:=f2.cell 0 rfl;have s1:=f2.cell 1 rfl;obtain⟨vt,Jb,fh,hth⟩:=hh3;have h0:(w2.alloc (.cells #[I 1,zu n] 217)).cell? (J bh 1)=zs (A.bt s) 0:=fh.cell 1 rfl;have h3:=fh.cell 3 (v:=zu hu.at_) rfl;have t0:(w2.alloc (.cells #[I 1,zu n] 217)).cell? (J (A.bt s) 0)=zt t.id:=r3.dZ HT.out 0 rfl;have GG:=U (zA r3 (zA (g1.trans gq) (zA F0 (zA F1 (show dE (kp A D s) A.L _ bh hu from ⟨vt,Jb,fh,hth⟩)))));clear r1 g1 f0 f1 qA r3 g3 gq F0 F1 f2 fh hth hq;generalize w2.heap.size=b2 at*;generalize w2.alloc (.cells #[I 1,zu n] 217)=w3 at*
     go_quiet (fail)
     go_wp2_with (go_at_call 200;refine (qZ (GG.out.1.drewN _) s bh hu (GG.out.2.2.2.2.grow (Grow.drewN _ _ _)) F 0).mono ?_;rintro e w4 ⟨A',v,rfl,q1,q2,q3,q4⟩);go_ret;exact⟨A',v,rfl,q1,(GG.out.2.1.trans (Grow.drewN _ _ _)).trans q2,q3,q4⟩
   . rw[aX (fun e=>hn e.2),aV (Or.inl (by omega))]
     have d1:decide ((n:Int)<=(hu.at_:Int))=false:=by simpa using hn
     have d2:decide (n<=hu.at_)=false:=by simpa using hn
     clear hn hnb;go_enter Tryz.func183,Tryz.ntmps183;go_wp2_with (go_at_call 108;refine (HX.out _).mono ?_;rintro e w2 ⟨rfl,hq⟩);obtain⟨r1,g1⟩:=HR.out;obtain⟨f0,f1,qA⟩:=HF.out;obtain⟨r3,g3,f2⟩:=cB (r1.below hq) #[I 1,zu n] 217;have gq:=(Grow.below (L:=A.L) hq).trans g3;have F0:=f0.grow gq;have F1:=f1.grow gq;have hh3:=qA.grow gq;have c0:=F0.cell 0 rfl;have c1:=F1.cell 0 rfl;have s0:=f2.cell 0 rfl;have s1:=f2.cell 1 rfl;obtain⟨vt,Jb,fh,hth⟩:=hh3;have h0:(w2.alloc (.cells #[I 1,zu n] 217)).cell? (J bh 1)=zs (A.bt s) 0:=fh.cell 1 rfl;have h3:=fh.cell 3 (v:=zu hu.at_) rfl;have t0:(w2.alloc (.cells #[I 1,zu n] 217)).cell? (J (A.bt s) 0)=zt t.id:=r3.dZ HT.out 0 rfl;have GG:=U (zA r3 (zA (g1.trans gq) (zA F0 (zA F1 (show dE (kp A D s) A.L _ bh hu from ⟨vt,Jb,fh,hth⟩)))));clear r1 g1 f0 f1 qA r3 g3 gq F0 F1 f2 fh hth hq;generalize w2.heap.size=b2 at*;generalize w2.alloc (.cells #[I 1,zu n] 217)=w3 at*
     go_quiet (fail)
     go_wp2_with fail
     go_quiet (fail)
     go_wp2_with fail;go_wp2_with (go_at_call 201;refine (kV (GG.out.1.drewN _) s bh hu (GG.out.2.2.2.2.grow (Grow.drewN _ _ _)) F).mono ?_;rintro e w4 ⟨A',v,rfl,q1,q2,q3,q4⟩);go_ret;exact⟨A',v,rfl,q1,(GG.out.2.1.trans (Grow.drewN _ _ _)).trans q2,q3,q4⟩
 . by_cases k2:k=2
   . subst k2
     have LG:=hk2 rfl;rw[aX (by omega)];have ew:IntKind.i64.wrap (n:Int)=(n:Int):=by rw[jH];omega
     clear hk3 hk2 k1 hnb
     by_cases hn:n=t.id
     . rw[aV (Or.inr hn)]
       have d1:((n:Int)==(t.id:Int))=true:=by simp;omega
       have d2:((n:Int)=(t.id:Int))=True:=by simp;omega
       clear hn LG;go_enter Tryz.func183,Tryz.ntmps183;go_wp2_with (go_at_call 108;refine (HX.out _).mono ?_;rintro e w2 ⟨rfl,hq⟩);obtain⟨r1,g1⟩:=HR.out;obtain⟨f0,f1,qA⟩:=HF.out;obtain⟨r3,g3,f2⟩:=cB (r1.below hq) #[I 2,zu n] 217;have gq:=(Grow.below (L:=A.L) hq).trans g3;have F0:=f0.grow gq;have F1:=f1.grow gq;have hh3:=qA.grow gq;have c0:=F0.cell 0 rfl;have c1:=F1.cell 0 rfl;have s0:=f2.cell 0 rfl;have s1:=f2.cell 1 rfl;obtain⟨vt,Jb,fh,hth⟩:=hh3;have h0:(w2.alloc (.cells #[I 2,zu n] 217)).cell? (J bh 1)=zs (A.bt s) 0:=fh.cell 1 rfl;have h3:=fh.cell 3 (v:=zu hu.at_) rfl;have t0:(w2.alloc (.cells #[I 2,zu n] 217)).cell? (J (A.bt s) 0)=zt t.id:=r3.dZ HT.out 0 rfl;have GG:=U (zA r3 (zA (g1.trans gq) (zA F0 (zA F1 (show dE (kp A D s) A.L _ bh hu from ⟨vt,Jb,fh,hth⟩)))));clear r1 g1 f0 f1 qA r3 g3 gq F0 F1 f2 fh hth hq;generalize w2.heap.size=b2 at*;generalize w2.alloc (.cells #[I 2,zu n] 217)=w3 at*
       go_quiet (fail)
       go_wp2_with fail
       go_quiet (fail)
       go_wp2_with (go_at_call 201;refine (kV (GG.out.1.drewN _) s bh hu (GG.out.2.2.2.2.grow (Grow.drewN _ _ _)) F).mono ?_;rintro e w4 ⟨A',v,rfl,q1,q2,q3,q4⟩);go_ret;exact⟨A',v,rfl,q1,(GG.out.2.1.trans (Grow.drewN _ _ _)).trans q2,q3,q4⟩
     . rw[aX (by omega)]
       have d1:((n:Int)==(t.id:Int))=false:=by simp;omega
       have d2:((n:Int)=(t.id:Int))=False:=by simp;omega
       clear hn LG;go_enter Tryz.func183,Tryz.ntmps183;go_wp2_with (go_at_call 108;refine (HX.out _).mono ?_;rintro e w2 ⟨rfl,hq⟩);obtain⟨r1,g1⟩:=HR.out;obtain⟨f0,f1,qA⟩:=HF.out;obtain⟨r3,g3,f2⟩:=cB (r1.below hq) #[I 2,zu n] 217;have gq:=(Grow.below (L:=A.L) hq).trans g3;have F0:=f0.grow gq;have F1:=f1.grow gq;have hh3:=qA.grow gq;have c0:=F0.cell 0 rfl;have c1:=F1.cell 0 rfl;have s0:=f2.cell 0 rfl;have s1:=f2.cell 1 rfl;obtain⟨vt,Jb,fh,hth⟩:=hh3;have h0:(w2.alloc (.cells #[I 2,zu n] 217)).cell? (J bh 1)=zs (A.bt s) 0:=fh.cell 1 rfl;have h3:=fh.cell 3 (v:=zu hu.at_) rfl;have t0:(w2.alloc (.cells #[I 2,zu n] 217)).cell? (J (A.bt s) 0)=zt t.id:=r3.dZ HT.out 0 rfl;have GG:=U (zA r3 (zA (g1.trans gq) (zA F0 (zA F1 (show dE (kp A D s) A.L _ bh hu from ⟨vt,Jb,fh,hth⟩)))));clear r1 g1 f0 f1 qA r3 g3 gq F0 F1 f2 fh hth hq;generalize w2.heap.size=b2 at*;generalize w2.alloc (.cells #[I 2,zu n] 217)=w3 at*;have GA:∀ q,aD A D (w3.drewN q)∧Grow A.L w A.L (w3.drewN q)∧Fix A.L (w3.drewN q) w.heap.size (.cells #[R bh 0] 246)∧Fix A.L (w3.drewN q) (w.heap.size+1) (.cells #[zu F] 25)∧dE (kp A D s) A.L (w3.drewN q) bh hu:=fun q=>
        ⟨GG.out.1.drewN q,GG.out.2.1.trans (Grow.drewN _ _ q),GG.out.2.2.1.grow (Grow.drewN _ _ q),GG.out.2.2.2.1.grow (Grow.drewN _ _ q),GG.out.2.2.2.2.grow (Grow.drewN _ _ q)⟩
       have HA:=U GA;clear GA
       go_quiet (fail)
       go_wp2_with fail
       go_quiet (fail)
       generalize hw:(w3.drewN _).drewN _=w5;have GB:aD A D w5∧Grow A.L w A.L w5∧Fix A.L w5 w.heap.size (.cells #[R bh 0] 246)∧Fix A.L w5 (w.heap.size+1) (.cells #[zu F] 25)∧dE (kp A D s) A.L w5 bh hu:=by
        rw[<-hw];obtain⟨p1,p2,p3,p4,p5⟩:=HA.out _;exact⟨p1.drewN _,p2.trans (Grow.drewN _ _ _),p3.grow (Grow.drewN _ _ _),p4.grow (Grow.drewN _ _ _),p5.grow (Grow.drewN _ _ _)⟩
       have s15:w5.cell? (J b2 1)=zv n:=by rw[<-hw];exact s1
       have HM:=U (cB GB.1 #[I n] 3);have HB:=U GB;clear GB hw;go_wp2_with fail;go_ret;obtain⟨m1,m2,m3⟩:=HM.out;obtain⟨_,p2,p3,p4,p5⟩:=HB.out;exact⟨A,_,rfl,m1,p2.trans m2,bL.refl _ _,_,_,_,rfl,⟨_,(p3.grow m2).box,p5.grow m2⟩,m3.box,(p4.grow m2).box⟩
   . rw[aX (fun e=>k1 e.1),aV (Or.inl k2)]
     have d1:((k:Int)==1)=false:=by simp;omega
     have d2:((k:Int)=1)=False:=by simp;omega
     have d3:((k:Int)==2)=false:=by simp;omega
     have d4:((k:Int)=2)=False:=by simp;omega
     have d5:((k:Int) !=2)=true:=by simp;omega
     clear k1 k2 hk2 hk3 hnb;go_enter Tryz.func183,Tryz.ntmps183;go_wp2_with (go_at_call 108;refine (HX.out _).mono ?_;rintro e w2 ⟨rfl,hq⟩);obtain⟨r1,g1⟩:=HR.out;obtain⟨f0,f1,qA⟩:=HF.out;obtain⟨r3,g3,f2⟩:=cB (r1.below hq) #[I k,zu n] 217;have gq:=(Grow.below (L:=A.L) hq).trans g3;have F0:=f0.grow gq;have F1:=f1.grow gq;have hh3:=qA.grow gq;have c0:=F0.cell 0 rfl;have c1:=F1.cell 0 rfl;have s0:=f2.cell 0 rfl;have s1:=f2.cell 1 rfl;obtain⟨vt,Jb,fh,hth⟩:=hh3;have h0:(w2.alloc (.cells #[I k,zu n] 217)).cell? (J bh 1)=zs (A.bt s) 0:=fh.cell 1 rfl;have h3:=fh.cell 3 (v:=zu hu.at_) rfl;have t0:(w2.alloc (.cells #[I k,zu n] 217)).cell? (J (A.bt s) 0)=zt t.id:=r3.dZ HT.out 0 rfl;have GG:=U (zA r3 (zA (g1.trans gq) (zA F0 (zA F1 (show dE (kp A D s) A.L _ bh hu from ⟨vt,Jb,fh,hth⟩)))));clear r1 g1 f0 f1 qA r3 g3 gq F0 F1 f2 fh hth hq;generalize w2.heap.size=b2 at*;generalize w2.alloc (.cells #[I k,zu n] 217)=w3 at*
     go_quiet (fail)
     go_wp2_with fail
     go_quiet (fail)
     go_wp2_with (go_at_call 201;refine (kV (GG.out.1.drewN _) s bh hu (GG.out.2.2.2.2.grow (Grow.drewN _ _ _)) F).mono ?_;rintro e w4 ⟨A',v,rfl,q1,q2,q3,q4⟩);go_ret;exact⟨A',v,rfl,q1,(GG.out.2.1.trans (Grow.drewN _ _ _)).trans q2,q3,q4⟩
def Jc (f:Nat->Nat) (p:Nat×Nat):MapEntry:=⟨I p.1,ptr (f p.1),p.2⟩
theorem nZ (f:Nat->Nat) (E:Nat):∀ (l:List (Nat×Nat)) (i:Nat),Instr.findNow (.int .i64) (I E) (l.map (Jc f)) i=some none∧(∀ p∈l,p.1≠E)∨
 ∃ j,Instr.findNow (.int .i64) (I E) (l.map (Jc f)) i=some (some (j,ptr (f E)))∧∃ p∈l,p.1=E
 |[],i=>.inl ⟨rfl,by simp⟩
 |p::l,i=>by
  by_cases h:p.1=E
  . right
    refine⟨i,?_,p,by simp,h⟩;rw[List.map_cons];unfold Instr.findNow;simp[Jc,Instr.sameNow,h]
  . rcases nZ f E l (i+1) with ⟨h1,h2⟩|⟨j,h1,q,hq,V⟩
    . left
      refine⟨?_,fun q hq=>(List.mem_cons.1 hq).elim (fun e=>e ▸ h) (h2 q)⟩;rw[List.map_cons];unfold Instr.findNow;have hne:((E:Int)==(p.1:Int))=false:=by simp;omega
      simp[Jc,Instr.sameNow,hne];exact h1
    . right
      refine⟨j,?_,q,by simp[hq],V⟩;rw[List.map_cons];unfold Instr.findNow;have hne:((E:Int)==(p.1:Int))=false:=by simp;omega
      simp[Jc,Instr.sameNow,hne];exact h1
theorem wL (A:au) (s:Nat) (t:bB):fV A s t=(t.cells.reverse.zipIdx.map fun p=>(p.1.1,p.2)).map (Jc (A.bx s)):=by
 unfold fV;rw[List.map_map];rfl
theorem Cc {l:List (Nat×jr)} {E:Nat} {x:jr} (h:l.lookup E=some x):(E,x)∈l:=by
 induction l with
 |nil=>cases h
 |cons a l ih=>
  obtain⟨k,y⟩:=a;rw[List.lookup_cons] at h
  by_cases V:E=k
  . subst V
    simp at h;subst h;simp
  . rw[beq_false_of_ne V] at h
    exact pq _ (ih h)
theorem q9 (t:bB) (E:Nat):(∃ p∈(t.cells.reverse.zipIdx.map fun p=>(p.1.1,p.2)),p.1=E)↔(t.cell E).isSome=true:=by
 constructor
 . rintro ⟨p,hp,V⟩
   obtain⟨q,hq,rfl⟩:=List.mem_map.1 hp;have h1:=List.mem_reverse.1 (List.fst_mem_of_mem_zipIdx hq)
   cases hc:t.cell E with
   |some x=>rfl
   |none=>exact absurd V (nV hc _ h1)
 . intro h
   cases hc:t.cell E with
   |none=>rw[hc] at h;cases h
   |some x=>
    have h1:(E,x)∈t.cells:=by
     unfold bB.cell at hc;exact Cc hc
    obtain⟨i,hi⟩:=List.getElem?_of_mem (List.mem_reverse.2 h1);refine⟨(E,i),List.mem_map.2 ⟨((E,x),i),?_,rfl⟩,rfl⟩;rw[List.mem_zipIdx_iff_getElem?];exact hi
def au.px (A:au) (s:Nat) (t:bB) (E:Nat):Value:=if (t.cell E).isSome then ptr (A.bx s E) else .pointer none
theorem eX (hR:aD A D w) {s:Nat} {t:bB} (ht:D.ag.getD s none=some t) (E:Nat):
 (Instr.lookup 116 (.map (some (A.bm s))) (I E) false).run Tryz.prog w=.ok (A.px s t E) w:=by
 have Z:=hR.map ht;have hz:(zeroValue 223).run Tryz.prog w=.ok (.pointer none) w:=by kernel_rfl
 have hck:∀ e,(Instr.checkKey e 10000 3 (I E)).run Tryz.prog w=.ok () w:=by
  intro e;unfold Instr.checkKey;simp[run_underlying Tryz.underlying3]
 rw[wL] at Z
 rcases nZ (A.bx s) E (t.cells.reverse.zipIdx.map fun p=>(p.1.1,p.2)) 0 with ⟨h1,h2⟩|⟨j,h1,h2⟩
 . have e:A.px s t E=.pointer none:=by
    unfold au.px;rw[aX];intro h;obtain⟨p,hp,V⟩:=(q9 t E).2 h;exact h2 p hp V
   rw[e];clear h2 e;generalize (t.cells.reverse.zipIdx.map fun p=>(p.1.1,p.2)).map (Jc (A.bx s))=es at*;simp[Instr.lookup,run_underlying Tryz.underlying116,run_underlying Tryz.underlying3,MapKept.run_getObj_map Z,hck,Instr.findKey,h1,hz,Result.andThen]
 . have e:A.px s t E=ptr (A.bx s E):=by
    unfold au.px;rw[aV ((q9 t E).1 h2)]
   rw[e];clear h2 e;generalize (t.cells.reverse.zipIdx.map fun p=>(p.1.1,p.2)).map (Jc (A.bx s))=es at*;simp[Instr.lookup,run_underlying Tryz.underlying116,run_underlying Tryz.underlying3,MapKept.run_getObj_map Z,hck,Instr.findKey,h1,Result.andThen]
theorem Ex (hR:aD A D w) (s:Nat) (t:bB) (ht:D.ag.getD s none=some t) (E F:Nat) (got:Bool):
 zk 143 #[R (A.bt s) 0,.agg #[I E,zu F,.bool got]] w fun e G=>e=.returned (.bool (t.needs (E,F,got)))∧Below w.heap.size w G:=by
 obtain⟨r1,g1,f0⟩:=cB hR #[I E,zu F,.bool got] 250;have hbl:Below w.heap.size w (w.alloc (.cells #[I E,zu F,.bool got] 250)):=(Below.refl _ _).alloc (zr _) _;have c0:=f0.cell 0 (v:=I E) rfl;have c2:=f0.cell 2 (v:=.bool got) rfl;have t7:=r1.dZ ht 7 (v:=.map (some (A.bm s))) rfl;have t1:=r1.dZ ht 1 (v:=I t.ak) rfl;have hlk:∀ n,(Instr.lookup 116 (.map (some (A.bm s))) (I E) false).run Tryz.prog ((w.alloc (.cells #[I E,zu F,.bool got] 250)).drewN n)=.ok (A.px s t E) ((w.alloc (.cells #[I E,zu F,.bool got] 250)).drewN n):=fun n=>eX (r1.drewN n) ht E
 have FE:=U hbl;clear hR ht r1 g1 f0 hbl;unfold bB.needs;unfold au.px at hlk;generalize t.ak=lv at*
 by_cases hx:(t.cell E).isSome=true
 . rw[aV hx] at hlk
   have hnone:(t.cell E).isNone=false:=by cases h:t.cell E<;>simp[h] at hx ⊢
   have HN:=U hnone;clear hx hnone;go_enter Tryz.func143,Tryz.ntmps143;go_wp2_with fail;generalize w.alloc (.cells #[I E,zu F,.bool got] 250)=w2 at*
   go_quiet (fail)
   go_wp2_with fail;go_ret;exact⟨by simp[HN.out],FE.out.trans ⟨rfl,rfl,rfl,zr _,fun _ _=>rfl⟩⟩
 . rw[aX hx] at hlk
   have hnone:(t.cell E).isNone=true:=by cases h:t.cell E<;>simp[h] at hx ⊢
   have HN:=U hnone;clear hx hnone
   by_cases h3:lv=3
   . have H3:=U h3
     have a3:((lv:Int)==3)=true:=by simp;omega
     have b3:((lv:Int)=3)=True:=by simp;omega
     clear h3;go_enter Tryz.func143,Tryz.ntmps143;go_wp2_with fail;generalize w.alloc (.cells #[I E,zu F,.bool got] 250)=w2 at*
     go_quiet (fail)
     go_wp2_with fail;go_ret;exact⟨by simp[HN.out,H3.out],FE.out.trans ⟨rfl,rfl,rfl,zr _,fun _ _=>rfl⟩⟩
   . by_cases h2:lv=2
     . have H3:=U h2
       have a3:((lv:Int)==3)=false:=by simp;omega
       have b3:((lv:Int)=3)=False:=by simp;omega
       have a2:((lv:Int)==2)=true:=by simp;omega
       have b2:((lv:Int)=2)=True:=by simp;omega
       clear h3 h2;go_enter Tryz.func143,Tryz.ntmps143;go_wp2_with fail;generalize w.alloc (.cells #[I E,zu F,.bool got] 250)=w2 at*
       go_quiet (fail)
       go_wp2_with fail;go_ret;exact⟨by simp[HN.out,H3.out],FE.out.trans ⟨rfl,rfl,rfl,zr _,fun _ _=>rfl⟩⟩
     . have H3:=U (zA h3 h2)
       have a3:((lv:Int)==3)=false:=by simp;omega
       have b3:((lv:Int)=3)=False:=by simp;omega
       have a2:((lv:Int)==2)=false:=by simp;omega
       have b2:((lv:Int)=2)=False:=by simp;omega
       clear h3 h2;go_enter Tryz.func143,Tryz.ntmps143;go_wp2_with fail;generalize w.alloc (.cells #[I E,zu F,.bool got] 250)=w2 at*
       go_quiet (fail)
       go_wp2_with fail;go_ret;exact⟨by simp[HN.out,H3.out.1,H3.out.2],FE.out.trans ⟨rfl,rfl,rfl,zr _,fun _ _=>rfl⟩⟩
theorem og (hR:aD A D w) (s:Nat) (t:bB) (ht:D.ag.getD s none=some t) (h1:1<=t.id) (h2:t.id<=65535):
 zk 126 #[R (A.bt s) 0] w fun e G=>e=.returned (zu ((mine t:Nat):Int))∧w=G:=by
 have c0:w.cell? (J (A.bt s) 0)=zt t.id:=hR.dZ ht 0 rfl;have e:((mine t:Nat):Int)=4611686018427387904+(t.id:Int):=by unfold mine mO;omega
 have hw:=Word.I9 (t.id:Int) (by omega) (by omega) w;rw[e];have HW:=U hw;clear hR ht h1 h2 e hw;go_enter Tryz.func126,Tryz.ntmps126;go_wp2_with (go_at_call 148;refine HW.out.mono ?_;rintro e G ⟨rfl,rfl⟩);go_ret;exact⟨rfl,rfl⟩
theorem zN (hR:aD A D w) (s:Nat) (t:bB) (ht:D.ag.getD s none=some t) (i:Nat):
 zk 144 #[R A.Y 0,R (A.bt s) 0,R (A.bc s) 0,I i] w (aZ A w s (D,iK t i)):=by
 obtain⟨r4,g4,f0,f1,f2,f3⟩:=jB hR #[R A.Y 0] 32 #[R (A.bt s) 0] 100 #[R (A.bc s) 0] 105 #[I i] 3;have c0:=f0.cell 0 (v:=R A.Y 0) rfl;have c1:=f1.cell 0 (v:=R (A.bt s) 0) rfl;have c2:=f2.cell 0 (v:=R (A.bc s) 0) rfl;have c3:=f3.cell 0 (v:=I i) rfl;have t9:=r4.dZ ht 9 (v:=A.dN s) rfl;have aS:=(r4.mem.all (.aJ s))
 rw[kR ht] at aS;obtain⟨av,iJ,hv,_⟩:=Ow.bD aS.1;rw[hv] at t9;have HR:=U (zA r4 (zA g4 (zA f0 (zA f1 (zA f2 f3)))));clear hR ht r4 g4 f0 f1 f2 f3 aS hv;unfold iK;generalize t.aJ.length=n at*
 by_cases hi:i=n
 . rw[aV hi]
   have d1:((i:Int)==(n:Int))=true:=by simp;omega
   have d2:(i==n)=true:=by simp;omega
   have d3:((i:Int)=(n:Int))=True:=by simp;omega
   clear hi;go_enter Tryz.func144,Tryz.ntmps144;go_wp2_with fail;generalize (((w.alloc _).alloc _).alloc _).alloc _=w4 at*
   go_quiet (fail)
   go_wp2_with (go_at_call 163;refine (Cb (HR.out.1.drewN _) s).mono ?_;rintro e w2 ⟨A2,v,rfl,p1,p2,p3,p4⟩);go_ret;exact⟨A2,v,rfl,p1,(HR.out.2.1.trans (Grow.drewN _ _ _)).trans p2,p3,p4⟩
 . rw[aX hi]
   have d1:((i:Int)==(n:Int))=false:=by simp;omega
   have d2:(i==n)=false:=by simp;omega
   have d3:((i:Int)=(n:Int))=False:=by simp;omega
   clear hi;go_enter Tryz.func144,Tryz.ntmps144;go_wp2_with fail;generalize hw4:(((w.alloc _).alloc _).alloc _).alloc _=w4 at*;have hz:w4.heap.size=w.heap.size+1+1+1+1:=by rw[<-hw4];simp
   have HZ:=U hz;clear hz hw4
   go_quiet (fail)
   generalize hw:w4.drewN _=w5;obtain⟨r,g,f0,f1,f2,f3⟩:=HR.out;have g5:Grow A.L w4 A.L w5:=by rw[<-hw];exact Grow.drewN _ _ _
   have r5:aD A D w5:=by rw[<-hw];exact r.drewN _
   obtain⟨r6,g6,f4⟩:=cB r5 #[.func (.func 164) #[] #[R w.heap.size 0,.pointer (some ⟨w.heap.size+1,0,none⟩),.pointer (some ⟨w.heap.size+1+1+1,0,none⟩),.pointer (some ⟨w.heap.size+1+1,0,none⟩),R w5.heap.size 0]] 139;have gg:=g5.trans g6;have HQ:=U (zA r6 (zA (g.trans gg) (zA (f0.grow gg) (zA (f1.grow gg) (zA (f3.grow gg) (zA (f2.grow gg) f4))))));clear r g f0 f1 f2 f3 g5 r5 r6 g6 f4 gg hw;go_wp2_with fail;go_ret;obtain⟨q1,q2,q3,q4,q5,q6,q7⟩:=HQ.out;exact⟨A,_,rfl,q1,q2,bL.refl _ _,_,_,_,_,_,rfl,q3.box,q4.box,q5.box,q6.box,q7.box⟩
theorem disable (w:World):(callFunc 214 #[]).run Tryz.prog w=.ok (.value (.tuple #[])) w:=run_call_mark0 Tryz.func214 (by kernel_rfl) (by kernel_rfl) (by kernel_rfl) .disable (by kernel_rfl) w
theorem enable (w:World):(callFunc 216 #[]).run Tryz.prog w=.ok (.value (.tuple #[])) w:=run_call_mark0 Tryz.func216 (by kernel_rfl) (by kernel_rfl) (by kernel_rfl) .enable (by kernel_rfl) w
theorem acquire (a:Addr) (w:World):(callFunc 217 #[.pointer (some a)]).run Tryz.prog w=.ok (.value (.tuple #[])) w:=run_call_marked Tryz.func217 (by kernel_rfl) (by kernel_rfl) (by kernel_rfl) .acquire (by kernel_rfl) a w
theorem releaseMerge (a:Addr) (w:World):(callFunc 219 #[.pointer (some a)]).run Tryz.prog w=.ok (.value (.tuple #[])) w:=run_call_marked Tryz.func219 (by kernel_rfl) (by kernel_rfl) (by kernel_rfl) .releaseMerge (by kernel_rfl) a w
theorem tY (a:Addr) (x:Value) (u:FrameMode) (w:World) (hc:w.cell? a=some x) (hz:w.frozen? a=false):
 CallsD Tryz.prog 189 #[.pointer (some a),.bool true] u w fun e u' G=>u'=u∧(e=.returned (.tuple #[])∧G=w.drew.setCell a (.int .u32 1)):=by
 have hc':w.drew.cell? a=some x:=by go_simp
 have hz':w.drew.frozen? a=false:=by go_simp
 have hst:=run_call_store (P:=Tryz.prog) Tryz.func205 (by kernel_rfl) (by kernel_rfl) (by kernel_rfl) (by kernel_rfl) (k:=.u32) (y:=1) hc' hz'
 go_enter_d Tryz.func189,Tryz.ntmps189
 go_wp2
 go_region_calls
 all_goals (go_end0;exact⟨rfl,rfl⟩)
theorem unlock_deferred (a:Addr) (u:FrameMode) (w:World) (hc:w.cell? a=some (.int .i32 1)) (hz:w.frozen? a=false):
 CallsD Tryz.prog 188 #[.pointer (some a)] u w fun e u' G=>u'=u∧(e=.returned (.tuple #[])∧G=w.setCell a (.int .i32 0)):=by
 have hd:=disable;have he:=enable;have hr:=releaseMerge;have hadd:=run_call_add (P:=Tryz.prog) Tryz.func220 (by kernel_rfl) (by kernel_rfl) (by kernel_rfl) .i32 (by kernel_rfl) (y:=-1) (s:=0) hc hz (by simp[go_sem];rfl);have hcv:=run_convert_to_unsafe (P:=Tryz.prog) (src:=281) (dst:=285) Tryz.underlying281 Tryz.underlying285 (by kernel_rfl) hc
 go_enter_d Tryz.func188,Tryz.ntmps188
 go_wp2
 go_end0
 go_wp2
 go_end0
 exact⟨rfl,rfl⟩
theorem lock_free (a:Addr) (w:World) (hc:w.cell? a=some (.int .i32 0)) (hz:w.frozen? a=false):
 zk 187 #[.pointer (some a)] w fun e G=>e=.returned (.tuple #[])∧G=w.setCell a (.int .i32 1):=by
 have hd:=disable;have he:=enable;have ha:=acquire;have hcas:=run_call_cas_hit (P:=Tryz.prog) Tryz.func215 (by kernel_rfl) (by kernel_rfl) (by kernel_rfl) .i32 (by kernel_rfl) (y:=1) hc hz;have hc':(w.setCell a (.int .i32 1)).cell? a=some (.int .i32 1):=World.cell?_setCell_same w a _ hc;have hcv:=run_convert_to_unsafe (P:=Tryz.prog) (src:=281) (dst:=285) Tryz.underlying281 Tryz.underlying285 (by kernel_rfl) hc';go_enter Tryz.func187,Tryz.ntmps187;go_wp2
 first|go_end0|(simp only[Exit.inBlock,Exit.then];refine bodyPost_ret (results_none rfl _ _ _) rfl ?_)|refine bodyPost_ret (results_none rfl _ _ _) rfl ?_
 go_wp2
 go_end0
 exact⟨rfl,rfl⟩
structure Held (b off:Nat) (w:World):Prop where
 d:w.cell? (J b off)=some (.int .u32 0)
 m:w.cell? (J b (off+1))=some (.int .i32 1)
 zd:w.frozen? (J b off)=false
 zm:w.frozen? (J b (off+1))=false
def Dz (b off:Nat) (w:World):World:=(w.drew.setCell (J b off) (.int .u32 1)).setCell (J b (off+1)) (.int .i32 0)
theorem Gb (b off fc:Nat) (pg:Array Value) (w:World) (Q:World->Prop) (h0:w.cell? (J b off)=some (.int .u32 0)) (h1:w.cell? (J b (off+1))=some (.int .i32 0))
 (f0:w.frozen? (J b off)=false) (f1:w.frozen? (J b (off+1))=false)
 (he:∀ w,(callFunc fc pg).run Tryz.prog w=.ok (.enter fc pg) w)
 (hf:zk fc pg (w.setCell (J b (off+1)) (.int .i32 1)) fun e G=>e=.returned (.tuple #[])∧Q G) (hq:∀ G,Q G->Held b off G):
 zk 166 #[R b off,.func (.func fc) #[] pg] w fun e G=>e=.returned (.tuple #[])∧∃ w2,Q w2∧G=Dz b off w2:=by
 have hl:=run_call_load (P:=Tryz.prog) Tryz.func186 (by kernel_rfl) (by kernel_rfl) (by kernel_rfl) .u32 (by kernel_rfl) (w:=w.setCell (J b (off+1)) (.int .i32 1)) (a:=(J b off)) (x:=0) ((World.cell?_setCell_other _ (J b (off+1)) (J b off) _ (by simp)).trans h0);have hnot:∀ (x:Bool) (w:World),(Op.unary .not (.bool x)).run Tryz.prog w=.ok (.bool (!x)) w:=fun _ _=>rfl
 have HF:=U hf;have HQ:=U hq;clear hf hq
 go_enter_defers Tryz.func166,Tryz.ntmps166
 go_wp2_with (first|(go_at_call 187;refine (lock_free (J b (off+1)) _ (by go_simp) (by go_simp)).mono ?_;rintro e G ⟨rfl,rfl⟩)|(go_at_call 165;go_in));refine HF.out.mono ?_;rintro e w2 ⟨rfl,hw2⟩;go_wp2;refine leaves_cons (f:=189) (args:=#[R b off,.bool true]) (by simp) (by simp[go_sem]) ?_;have HH:=HQ.out w2 hw2;refine (tY (J b off) (.int .u32 0) .returning _ HH.d HH.zd).mono ?_;rintro e u' w'' ⟨rfl,rfl,rfl⟩;refine leaves_cons (f:=188) (args:=#[R b (off+1)]) (by simp[settle]) (by simp[go_sem]) ?_;refine (unlock_deferred (J b (off+1)) _ _ ?_ ?_).mono ?_
 . refine (World.cell?_setCell_other _ (J b off) (J b (off+1)) _ (by simp)).trans ?_
   rw[World.cell?_drew];exact HH.m
 . simp[HH.zm]
 rintro e u' w'' ⟨rfl,rfl,rfl⟩;simp[Leaves,settle,results,Tryz.results166];exact⟨w2,hw2,rfl⟩
theorem zO (b off fc:Nat) (pg:Array Value) (w:World) (Q:World->Prop) (h0:w.cell? (J b off)=some (.int .u32 0)) (h1:w.cell? (J b (off+1))=some (.int .i32 0))
 (f0:w.frozen? (J b off)=false) (f1:w.frozen? (J b (off+1))=false)
 (he:∀ w,(callFunc fc pg).run Tryz.prog w=.ok (.enter fc pg) w)
 (hf:zk fc pg (w.setCell (J b (off+1)) (.int .i32 1)) fun e G=>e=.returned (.tuple #[])∧Q G) (hq:∀ G,Q G->Held b off G):
 zk 146 #[R b off,.func (.func fc) #[] pg] w fun e G=>e=.returned (.tuple #[])∧∃ w2,Q w2∧G=Dz b off w2:=by
 have HS:=U (Gb b off fc pg w Q h0 h1 f0 f1 he hf hq);have hl:=run_call_load (P:=Tryz.prog) Tryz.func186 (by kernel_rfl) (by kernel_rfl) (by kernel_rfl) .u32 (by kernel_rfl) h0;have hnot:∀ (x:Bool) (w:World),(Op.unary .not (.bool x)).run Tryz.prog w=.ok (.bool (!x)) w:=fun _ _=>rfl
 clear he hf hq;go_enter Tryz.func146,Tryz.ntmps146;go_wp2_with (first|(go_at_call 166;refine HS.out.mono ?_;rintro e G ⟨rfl,hw⟩)|(go_at_call 165;go_in))
 go_end0
 exact⟨rfl,hw⟩
theorem Ce (pg:Array Value) (w:World):(callFunc 161 pg).run Tryz.prog w=.ok (.enter 161 pg) w:=by kernel_rfl
theorem Cf (pg:Array Value) (w:World):(callFunc 147 pg).run Tryz.prog w=.ok (.enter 147 pg) w:=by kernel_rfl
theorem DC (a:Addr) (fv:Value) (w:World) (h0:w.cell? a=some (.int .u32 1)):
 zk 146 #[.pointer (some a),fv] w fun e G=>e=.returned (.tuple #[])∧G=w:=by
 have hl:=run_call_load (P:=Tryz.prog) Tryz.func186 (by kernel_rfl) (by kernel_rfl) (by kernel_rfl) .u32 (by kernel_rfl) h0;have hnot:∀ (x:Bool) (w:World),(Op.unary .not (.bool x)).run Tryz.prog w=.ok (.bool (!x)) w:=fun _ _=>rfl
 go_enter Tryz.func146,Tryz.ntmps146;go_wp2
 go_end0
 exact⟨rfl,rfl⟩
theorem jP:∀ l:List (Nat×Nat),(bI l).length=l.length*2
 |[]=>rfl
 |p::l=>by have:=jP l;simp[bI,two] at this ⊢;omega
theorem tZ:∀ (l:List (Nat×Nat)) (k:Nat) (p:Nat×Nat),l[k]? =some p->(bI l)[k*2]? =zt p.1∧(bI l)[k*2+1]? =zt p.2
 |[],_,_,h=>by cases h
 |q::l,0,p,h=>by
  obtain rfl:q=p:=by simpa using h
  exact⟨rfl,rfl⟩
 |q::l,k+1,p,h=>by
  have:=tZ l k p (by simpa using h);rw[show (k+1)*2=k*2+1+1 by omega];exact this
theorem Je (a b c d:Int) (w:World):(binOp .neq 152 (.agg #[I a,I b]) (.agg #[I c,I d])).run Tryz.prog w=.ok (.bool (!(decide (a=c)&&decide (b=d)))) w:=by
 go_simp
 repeat' split
 all_goals simp[*]
set_option maxHeartbeats 1000000 in
theorem Cg (va vb:Value) (ps:List (Nat×Nat)) (ba bb:Nat) (w:World) (hA:Ow.Row w ba 2 va (bI ps)) (hB:Ow.Row w bb 2 vb (bI ps)):
 zk 52 #[va,vb] w fun e G=>e=.returned (.bool true)∧Below w.heap.size w G:=by
 obtain⟨a,n,cap,rfl,hn,hc,hm,ha⟩:=hA;obtain⟨b,n',cap',rfl,hn',hc',hm',Z⟩:=hB;rw[jP] at hn hn';obtain rfl:n=n':=by omega
 have HX:Hid (ps.length=n):=by exact (by omega:ps.length=n)
 unfold maxLen at hm;have hmax:n<=9223372036854775807:=by omega
 clear hn hn' hm hm' hc hc';go_enter Tryz.func52,Tryz.ntmps52;go_wp2
 go_loopw [5] (fun i wr=>(∃ k:Nat,k<=n∧i=I k)∧Below w.heap.size w wr) (fun i _=>n - (intOf i).toNat)
 case atStart=>exact⟨⟨0,by omega,rfl⟩,Below.refl _ _⟩
 case round=>
  obtain⟨⟨k,V,rfl⟩,hbel⟩:=hrel
  by_cases hlt:k<n
  . rcases ha with ha|⟨g,off,rfl,_,hg,hcell⟩
    . omega
    rcases Z with Z|⟨g',off',rfl,_,hg',hcell'⟩
    . omega
    obtain⟨p,hp⟩:∃ p,ps[k]? =some p:=⟨_,zx (by rw[HX.out];exact hlt)⟩
    obtain⟨e1,e2⟩:=tZ ps k p hp;have i1:(0:Int)<=(k:Int):=by omega
    have i2:(k:Int)<(n:Int):=by omega
    have c1:=hcell (k*2) (by omega);have c2:=hcell (k*2+1) (by omega);have d1:=hcell' (k*2) (by omega);have d2:=hcell' (k*2+1) (by omega);rw[e1] at c1 d1;rw[e2] at c2 d2;replace c1:=(hbel.cell (p:=⟨g,off+k*2,none⟩) hg).trans c1;replace c2:=(hbel.cell (p:=(J g (off+(k*2+1)))) hg).trans c2;replace d1:=(hbel.cell (p:=⟨g',off'+k*2,none⟩) hg').trans d1;replace d2:=(hbel.cell (p:=(J g' (off'+(k*2+1)))) hg').trans d2;have c3:wr.cell? ⟨g,off+k*2+1,none⟩=zt p.2:=c2;have d3:wr.cell? ⟨g',off'+k*2+1,none⟩=zt p.2:=d2;have hcmp:=Je p.1 p.2 p.1 p.2;rw[show (!(decide ((p.1:Int)=(p.1:Int))&&decide ((p.2:Int)=(p.2:Int))))=false by simp] at hcmp;generalize (p.1:Int)=x at*;generalize (p.2:Int)=y at*;clear hp e1 e2 hcell hcell';go_wp2_with fail
    go_quiet (fail)
    go_wp2_with fail;exact⟨⟨⟨k+1,by omega,by go_num⟩,⟨hbel.os,hbel.tape,hbel.output,hbel.size,hbel.block⟩⟩,by simp[intOf];omega⟩
  . obtain rfl:k=n:=by omega
    go_wp2_with fail;go_ret;exact⟨rfl,hbel⟩
theorem yg {w:World} {base:Nat} {e:TypeId} {size:Nat} {v:Value} {n:Nat} {xs:List Value} (h:w.ownsRow base e size v n xs):Ow.Row w base size v xs:=by
 obtain⟨a,cap,rfl,h1,h2,a',m,c,e0,h3,h4,h5,h6⟩:=Ow.bD h;simp only[Value.slice.injEq] at e0;obtain⟨rfl,rfl,rfl⟩:=e0;exact⟨a,n,cap,rfl,h3,h1,by unfold maxLen;omega,h6⟩
theorem Jf (w:World) (xs:List Value) (T:TypeId) (n size:Nat) (hl:xs.length=n*size) (hn:n<=1000000):Ow.Row (w.alloc (.cells xs.toArray T)) 0 size (.slice (some (J w.heap.size 0)) n n) xs:=by
 refine⟨_,n,n,rfl,hl,zr _,by unfold maxLen;omega,.inr ⟨w.heap.size,0,rfl,zz _,by simp,fun j hj=>?_⟩⟩;have hj':j<xs.length:=by omega
 rw[zx hj'];have h:=Ow.iF w xs T w.heap.size rfl j xs[j] (zx hj');have e1:((J w.heap.size 0):Addr).add j=(J w.heap.size (0+j)):=by
  unfold Addr.add;split
  . rename_i h;subst h;rfl
  . rfl
 rw[e1] at h;exact h
theorem Row.alloc' {w:World} {base size:Nat} {v:Value} {xs:List Value} (h:Ow.Row w base size v xs) (o:Obj):Ow.Row (w.alloc o) base size v xs:=h.below ((Below.refl _ w).alloc (zr _) o)
theorem uf (l y1 y2 y3 y4 y5 y6 y7 y8:Value) (w:World):(Instr.field 42 (.agg #[l,y1,y2,y3,y4,y5,y6,y7,y8]) 0).run Tryz.prog w=.ok l w:=by rfl
end Go.Proofs.YthicolbbmjfkfaaGreat.Em
namespace Go.Proofs.YthicolbbmjfkfaaGreat.Em
open Go.ChangeShapes Go.WideShapes Go.ChangeAt Go.RowKit Go.Deep
section
variable {zi:Type} {enc:TypeId×Value->zi} {w:World} {base:Nat} {spare:Nat->Bool} {held:Bool}
theorem qB {fuel:Nat} {c:Value} {x:DataW zi×List MemPlace} (h:DataW.trod enc Tryz.prog w base spare held fuel 3 [c]=some x):∃ a,c=I a∧-9223372036854775808<=a∧a<9223372036854775808:=by
 obtain⟨a,e,_,hw⟩:=DataW.trod_int Tryz.underlying3 h;simp at e;subst e;have:=bounds_i64 hw;exact⟨a,rfl,by omega,by omega⟩
theorem Jg {fuel:Nat} {c0 c1 c2 c3:Value} {x:DataW zi×List MemPlace} (h:DataW.trod enc Tryz.prog w base spare held fuel 27 [c0,c1,c2,c3]=some x):
 ∃ a0 a1 a2 a3,c0=I a0∧c1=I a1∧c2=I a2∧c3=I a3∧∀ z∈[a0,a1,a2,a3],-9223372036854775808<=z∧z<9223372036854775808:=by
 have hi:Tryz.prog.cellsOf 3=1:=by kernel_rfl
 obtain⟨xs,n,_,_,_,hl,hf⟩:=DataW.trod_struct Tryz.underlying27 h;obtain⟨y,hy⟩:∃ y,xs=y:=⟨_,rfl⟩
 match xs,hl with
 |[y0,y1,y2,y3],_=>
  have f0:DataW.trod enc Tryz.prog w base spare held n 3 (([c0,c1,c2,c3].drop 0).take (Tryz.prog.cellsOf 3))=some y0:=hf 0 _ rfl;rw[hi] at f0;have f1:DataW.trod enc Tryz.prog w base spare held n 3 (([c0,c1,c2,c3].drop 1).take (Tryz.prog.cellsOf 3))=some y1:=hf 1 _ rfl;rw[hi] at f1;have f2:DataW.trod enc Tryz.prog w base spare held n 3 (([c0,c1,c2,c3].drop 2).take (Tryz.prog.cellsOf 3))=some y2:=hf 2 _ rfl;rw[hi] at f2;have f3:DataW.trod enc Tryz.prog w base spare held n 3 (([c0,c1,c2,c3].drop 3).take (Tryz.prog.cellsOf 3))=some y3:=hf 3 _ rfl;rw[hi] at f3;obtain⟨a0,rfl,w0⟩:=qB f0;obtain⟨a1,rfl,H⟩:=qB f1;obtain⟨a2,rfl,w2⟩:=qB f2;obtain⟨a3,rfl,w3⟩:=qB f3;refine⟨a0,a1,a2,a3,rfl,rfl,rfl,rfl,?_⟩;intro z hz;simp at hz
  rcases hz with rfl|rfl|rfl|rfl<;>assumption
end
end Go.Proofs.YthicolbbmjfkfaaGreat.Em
