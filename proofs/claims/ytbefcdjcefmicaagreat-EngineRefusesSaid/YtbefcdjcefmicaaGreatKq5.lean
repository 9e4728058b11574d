import Derived.Test.YtbefcdjcefmicaaGreatKq3
import Derived.Deep.QuietTactic
import Derived.BigQuiet
import Derived.StillTailTactics
import Derived.Test.YtbefcdjcefmicaaGreatKq4
namespace Go.Proofs.YtbefcdjcefmicaaGreat.Em
open Go.ChangeShapes Go.WideShapes Go.ChangeAt Go.RowKit En
set_option linter.unusedVariables false
set_option linter.unusedSimpArgs false
set_option maxRecDepth 100000
set_option maxHeartbeats 1600000
def Did (A:Book) (w:World) (σ':St) (v:Value):Ending→World→Prop:=fun e w'=>e=.returned v∧Rep A σ' w'∧Grow A.L w A.L w'
theorem at_any {A:Book} {σ:St} {w:World} (h:Rep A σ w) (i:Nat) (hi:i<σ.words.length) (hc:σ.count<4000000000000000000):
 Calls Tryz.prog 101 #[.pointer (some ⟨A.ba,0,none⟩),zi (i:Int)] w fun e w'=>e=.returned (.pointer (some ⟨A.bw,i,none⟩))∧w'=w.setCell ⟨A.ba,1,none⟩ (zi ((σ.count:Int)+1)):=by
 have c0:=h.arena 0 rfl;have c1:w.cell? ⟨A.ba,1,none⟩=some (zi (σ.count:Int)):=h.arena 1 rfl;have z1:=h.arenaF 1;generalize hn:σ.words.length=n at*;have b1:(i:Int)<(n:Int):=by omega
 have b2:¬ (n:Int)≤(i:Int):=by omega
 have hadd:=run_call_add (P:=Tryz.prog) Tryz.func157 (by kernel_rfl) (by kernel_rfl) (by kernel_rfl) .i64 (by kernel_rfl) (y:=1) (s:=(σ.count:Int)+1) c1 z1 (by simp[go_sem];rw[IntKind.wrap_i64];omega);clear h hc hn hi;go_enter Tryz.func101,Tryz.ntmps101;go_wp2;go_ret;exact⟨rfl,rfl⟩
theorem load_any {A:Book} {σ:St} {w:World} (h:Rep A σ w) (i:Nat) (hi:i<σ.words.length) (hc:σ.count<4000000000000000000):
 Calls Tryz.prog 73 #[.pointer (some ⟨A.ba,0,none⟩),zi (i:Int)] w (Did A w σ.tick (zu (σ.word i:Int))):=by
 obtain⟨h1,g1⟩:=h.tick;have c2:=h1.word (i:=i) hi;have hl:=run_call_load (P:=Tryz.prog) Tryz.func128 (by kernel_rfl) (by kernel_rfl) (by kernel_rfl) .u64 (by kernel_rfl) c2;have hat:=at_any h i hi hc;have H:=zH h1;have G:=zH g1;clear h1 g1 h hi hc;have e1:σ.tick.word i=σ.word i:=rfl;rw[e1] at hl c2;clear e1;generalize σ.word i=x at*;go_enter Tryz.func73,Tryz.ntmps73;go_wp2_with (first|(go_at_call 101;refine hat.mono ?_;rintro e w' ⟨rfl,rfl⟩)|(go_at_call 90;go_in));go_ret;exact⟨rfl,H.out,G.out⟩
theorem store_any {A:Book} {σ:St} {w:World} (h:Rep A σ w) (i n:Nat) (hi:i<σ.words.length) (hc:σ.count<4000000000000000000):
 Calls Tryz.prog 77 #[.pointer (some ⟨A.ba,0,none⟩),zi (i:Int),zu (n:Int)] w (Did A w (σ.put i n) (.tuple #[])):=by
 obtain⟨h1,g1⟩:=h.tick;obtain⟨h2,g2⟩:=h.put i n;have c2:=h1.word (i:=i) hi;have z2:=h1.wordF i;have hl:=run_call_store (P:=Tryz.prog) Tryz.func134 (by kernel_rfl) (by kernel_rfl) (by kernel_rfl) (by kernel_rfl) (k:=.u64) (y:=(n:Int)) c2 z2;have hat:=at_any h i hi hc;have H:=zH h2;have G:=zH g2;clear h1 g1 h2 g2 h hi hc;generalize (n:Int)=y at*;go_enter Tryz.func77,Tryz.ntmps77;go_wp2_with (first|(go_at_call 101;refine hat.mono ?_;rintro e w' ⟨rfl,rfl⟩)|(go_at_call 103;go_in))
 go_end0
 go_wp2
 go_end0
 exact⟨rfl,H.out,G.out⟩
theorem cas_any {A:Book} {σ:St} {w:World} (h:Rep A σ w) (i o n:Nat) (hi:i<σ.words.length) (hc:σ.count<4000000000000000000):
 Calls Tryz.prog 75 #[.pointer (some ⟨A.ba,0,none⟩),zi (i:Int),zu (o:Int),zu (n:Int)] w (Did A w (σ.cas i o n) (.bool (σ.word i==o))):=by
 obtain⟨h1,g1⟩:=h.tick;obtain⟨h2,g2⟩:=h.put i n;have c2:=h1.word (i:=i) hi;have z2:=h1.wordF i;have e1:σ.tick.word i=σ.word i:=rfl;rw[e1] at c2;have hat:=at_any h i hi hc
 by_cases hx:σ.word i=o
 · have e2:σ.cas i o n=σ.put i n:=if_pos hx
   have e3:(σ.word i==o)=true:=by simp[hx]
   rw[e2,e3];rw[hx] at c2;have hl:=run_call_cas_hit (P:=Tryz.prog) Tryz.func133 (by kernel_rfl) (by kernel_rfl) (by kernel_rfl) .u64 (by kernel_rfl) (y:=(n:Int)) c2 z2;have H:=zH h2;have G:=zH g2;clear h1 g1 h2 g2 h hi hc hx e1 e2 e3;generalize (n:Int)=y at*;generalize (o:Int)=z at*;go_enter Tryz.func75,Tryz.ntmps75;go_wp2_with (first|(go_at_call 101;refine hat.mono ?_;rintro e w' ⟨rfl,rfl⟩)|(go_at_call 102;go_in));go_ret;exact⟨rfl,H.out,G.out⟩
 · have e2:σ.cas i o n=σ.tick:=if_neg hx
   have e3:(σ.word i==o)=false:=by simp[hx]
   rw[e2,e3];have hl:=run_call_cas_miss (P:=Tryz.prog) Tryz.func133 (by kernel_rfl) (by kernel_rfl) (by kernel_rfl) .u64 (by kernel_rfl) (o:=(o:Int)) (y:=(n:Int)) c2 z2 (by omega);have H:=zH h1;have G:=zH g1;clear h1 g1 h2 g2 h hi hc e1 e2 e3;generalize (n:Int)=y at*;generalize (o:Int)=z at*;go_enter Tryz.func75,Tryz.ntmps75;go_wp2_with (first|(go_at_call 101;refine hat.mono ?_;rintro e w' ⟨rfl,rfl⟩)|(go_at_call 102;go_in));go_ret;exact⟨rfl,H.out,G.out⟩
theorem count_any {A:Book} {σ:St} {w:World} (h:Rep A σ w) (hc:σ.count<4000000000000000000):
 Calls Tryz.prog 52 #[.pointer (some ⟨A.ba,0,none⟩)] w fun e w'=>e=.returned (zi (σ.count:Int))∧w=w':=by
 have c1:w.cell? ⟨A.ba,1,none⟩=some (zi (σ.count:Int)):=h.arena 1 rfl;have hl:=run_call_load (P:=Tryz.prog) Tryz.func127 (by kernel_rfl) (by kernel_rfl) (by kernel_rfl) .i64 (by kernel_rfl) c1;clear h hc;go_enter Tryz.func52,Tryz.ntmps52;go_wp2;go_ret;exact⟨rfl,rfl⟩
theorem peek_any {A:Book} {σ:St} {w:World} (h:Rep A σ w) (i:Nat) (hi:i<σ.words.length):
 Calls Tryz.prog 60 #[.pointer (some ⟨A.ba,0,none⟩),zi (i:Int)] w fun e w'=>e=.returned (zu (σ.word i:Int))∧∃ n,w'=w.drewN n:=by
 have c0:=h.arena 0 rfl;have c2:=h.word (i:=i) hi;have hl:=run_call_load (P:=Tryz.prog) Tryz.func128 (by kernel_rfl) (by kernel_rfl) (by kernel_rfl) .u64 (by kernel_rfl) c2;generalize hn:σ.words.length=n at*;have b1:(i:Int)<(n:Int):=by omega
 have b2:¬ (n:Int)≤(i:Int):=by omega
 clear h hn hi;go_enter Tryz.func60,Tryz.ntmps60;go_wp2;go_ret;exact⟨rfl,0,rfl⟩
theorem wslot_cast {l w:Nat} (h1:1≤l % 131072):((wslot l w:Nat):Int)=73+((l:Int) % 131072 - 1)*3+(w:Int):=by
 unfold wslot slotOf;omega
theorem slot_any (l k:Nat) (h1:1≤l % 131072) (h2:l % 131072≤256) (hl:l<18446744073709551616) (hk:k≤2) (w:World):
 Calls Tryz.prog 62 #[zu (l:Int),zi (k:Int)] w fun e w'=>e=.returned (zi ((wslot l k:Nat):Int))∧w=w':=by
 rw[wslot_cast h1];have hu:=Word.unlink_any (l:Int) (by omega) (by omega) w;generalize hi:(l:Int) % 131072 - 1=i at*;have b1:0≤i:=by omega
 have b2:i≤255:=by omega
 generalize hj:(k:Int)=j at*;have b3:0≤j:=by omega
 have b4:j≤2:=by omega
 have HU:=zH hu;clear h1 h2 hl hk hi hj hu;go_enter Tryz.func62,Tryz.ntmps62;go_wp2_with (go_at_call 92;refine HU.out.mono ?_;rintro e w' ⟨rfl,rfl⟩);go_ret;exact⟨rfl,rfl⟩
theorem place_any {A:Book} {σ:St} {w:World} (h:Rep A σ w) (id:Nat) (hid:id≤65535):
 Calls Tryz.prog 78 #[.pointer (some ⟨A.be,0,none⟩),zi (id:Int)] w fun e w'=>e=.returned (zi ((σ.place id:Nat):Int))∧w=w':=by
 have c0:w.cell? ⟨A.be,0,none⟩=some (zi (σ.slots:Int)):=h.eng 0 rfl;have hsl:=h.sl;have e:((σ.place id:Nat):Int)=73+(σ.slots:Int)*3+(id:Int):=by unfold St.place;omega
 rw[e];clear e;generalize hs:(σ.slots:Int)=s at*;have b1:1≤s:=by omega
 have b2:s≤256:=by omega
 generalize hj:(id:Int)=j at*;have b3:0≤j:=by omega
 have b4:j≤65535:=by omega
 clear h hsl hs hj hid;go_enter Tryz.func78,Tryz.ntmps78;go_wp2;go_ret;exact⟨rfl,rfl⟩
theorem pack_any (st en:Nat) (h1:st<8) (h2:en<1152921504606846976) (w:World):
 Calls Tryz.prog 79 #[zi (st:Int),zu (en:Int)] w fun e w'=>e=.returned (zu ((pack st en:Nat):Int))∧w=w':=by
 have e:((pack st en:Nat):Int)=(en:Int)*8+(st:Int):=by unfold pack;omega
 rw[e];clear e;have eo:=Bt.u64_or3 (en:Int) (st:Int) (by omega) (by omega) (by omega) (by omega);have ew:IntKind.u64.wrap (st:Int)=(st:Int):=by rw[IntKind.wrap_u64];omega
 have es:IntKind.u64.wrap ((en:Int)*8)=(en:Int)*8:=by rw[IntKind.wrap_u64];omega
 generalize hs:(en:Int)=s at*;have b1:0≤s:=by omega
 have b2:s<1152921504606846976:=by omega
 generalize hj:(st:Int)=j at*;have b3:0≤j:=by omega
 have b4:j<8:=by omega
 clear hs hj h1 h2;go_enter Tryz.func79,Tryz.ntmps79;go_wp2;go_ret;exact⟨rfl,rfl⟩
theorem pack_still (s e:Int) (st en:Nat) (hs:(st:Int)=s) (he:(en:Int)=e) (h1:st<8) (h2:en<1152921504606846976) (w:World):
 Calls Tryz.prog 79 #[zi s,zu e] w fun e w'=>e=.returned (zu ((pack st en:Nat):Int))∧w'=w:=by
 subst hs he;exact (pack_any st en h1 h2 w).mono fun _ _ h=>⟨h.1,h.2.symm⟩
theorem unpack_any (x:Nat) (hx:x<18446744073709551616) (w:World):
 Calls Tryz.prog 94 #[zu (x:Int)] w fun e w'=>e=.returned (.tuple #[zi ((stateOf x:Nat):Int),zu ((endOf x:Nat):Int)])∧w=w':=by
 have e1:((stateOf x:Nat):Int)=(x:Int) % 8:=by unfold stateOf;omega
 have e2:((endOf x:Nat):Int)=(x:Int) / 8:=by unfold endOf;omega
 rw[e1,e2];clear e1 e2;have ea:=Bt.u64_and7 (x:Int);have b0:0≤(x:Int):=by omega
 have b1:(x:Int)<18446744073709551616:=by omega
 have ew:IntKind.i64.wrap ((x:Int) % 8)=(x:Int) % 8:=by rw[IntKind.wrap_i64];omega
 generalize hs:(x:Int)=s at*;clear hs hx;go_enter Tryz.func94,Tryz.ntmps94;go_wp2
 go_ret2
 exact⟨rfl,rfl⟩
theorem clock_any (t id:Nat) (h1:t<281474976710656) (h2:id<65536) (w:World):
 Calls Tryz.prog 76 #[zu (t:Int),zi (id:Int)] w fun e w'=>e=.returned (zu ((clockW t id:Nat):Int))∧w=w':=by
 have e:((clockW t id:Nat):Int)=(t:Int)*65536+(id:Int):=by unfold clockW;omega
 rw[e];clear e;have eo:=Bt.u64_or16 (t:Int) (id:Int) (by omega) (by omega) (by omega) (by omega);have ew:IntKind.u64.wrap (id:Int)=(id:Int):=by rw[IntKind.wrap_u64];omega
 have es:IntKind.u64.wrap ((t:Int)*65536)=(t:Int)*65536:=by rw[IntKind.wrap_u64];omega
 generalize hs:(t:Int)=s at*;have b1:0≤s:=by omega
 have b2:s<281474976710656:=by omega
 generalize hj:(id:Int)=j at*;have b3:0≤j:=by omega
 have b4:j<65536:=by omega
 clear hs hj h1 h2;go_enter Tryz.func76,Tryz.ntmps76;go_wp2;go_ret;exact⟨rfl,rfl⟩
theorem drawn_any (x:Nat) (hx:x<18446744073709551616) (w:World):
 Calls Tryz.prog 59 #[zu (x:Int)] w fun e w'=>e=.returned (.tuple #[zu ((timeOf x:Nat):Int),zi ((lastOf x:Nat):Int)])∧w=w':=by
 have e1:((lastOf x:Nat):Int)=(x:Int) % 65536:=by unfold lastOf;omega
 have e2:((timeOf x:Nat):Int)=(x:Int) / 65536:=by unfold timeOf;omega
 rw[e1,e2];clear e1 e2;have ea:=Bt.u64_and65535 (x:Int);have b0:0≤(x:Int):=by omega
 have b1:(x:Int)<18446744073709551616:=by omega
 have ew:IntKind.i64.wrap ((x:Int) % 65536)=(x:Int) % 65536:=by rw[IntKind.wrap_i64];omega
 generalize hs:(x:Int)=s at*;clear hs hx;go_enter Tryz.func59,Tryz.ntmps59;go_wp2
 go_ret2
 exact⟨rfl,rfl⟩
theorem help_any {A:Book} {σ:St} {w:World} (h:Rep A σ w) (x:Nat) (hx:x<18446744073709551616) (hi:lastOf x≤2000) (hc:σ.count<4000000000000000000):
 Calls Tryz.prog 74 #[.pointer (some ⟨A.be,0,none⟩),zu (x:Int)] w (Did A w (σ.help x) (.tuple #[])):=by
 have c2:w.cell? ⟨A.be,2,none⟩=some (.pointer (some ⟨A.ba,0,none⟩)):=h.eng 2 rfl;have k1:=drawn_any x hx w;have k2:=(place_any h.drew (lastOf x) (by omega)).mono fun e w' h=>(⟨h.1,h.2.symm⟩:_∧w'=w.drew)
 have k3:=pack_still 1 0 1 0 rfl rfl (by omega) (by omega) w.drew;have k4:=pack_still 2 (timeOf x) 2 (timeOf x) rfl rfl (by omega) (by unfold timeOf;omega) w.drew;have k5:=cas_any h (σ.place (lastOf x)) (pack 1 0) (pack 2 (timeOf x)) (by rw[h.nw];unfold St.place;omega) hc;have K1:=zH k1;have K2:=zH k2;have K3:=zH k3;have K4:=zH k4;clear k5;have k6:=cas_any h.drew (σ.place (lastOf x)) (pack 1 0) (pack 2 (timeOf x)) (by rw[h.nw];unfold St.place;omega) hc;have G0:Grow A.L w A.L w.drew:=Grow.drew _ _;have K5:=zH k6;have HG:=zH G0;clear k1 k2 k3 k4 k6 h hx hi hc G0;go_enter Tryz.func74,Tryz.ntmps74;go_wp2_with (go_at_call 59;refine K1.out.mono ?_;rintro e w' ⟨rfl,rfl⟩);refine wp_region_still_tail 10 (by kernel_rfl) (by kernel_rfl) ?_;simp only[List.take_succ_cons,List.take_zero,List.drop_succ_cons,List.drop_zero]
 repeat still_step
 still_call K2.out
 still_call K3.out
 repeat still_step
 still_call K4.out
 refine wpStill_nil ?_;change wpList _ _ _ _ _ w.drew;generalize w.drew=w2 at*;go_wp2_with (go_at_call 75;refine K5.out.mono ?_;rintro e w' ⟨rfl,hR,hG⟩)
 go_end0
 exact⟨rfl,hR,HG.out.trans hG⟩
def SRep (e:Nat) (L:Lab) (w:World) (v:Value):Option S→Prop
 |none=>v=.nilFunc
 |some .now=>v=.func (.func 106) #[ptr e] #[]
 |some (.live s)=>∃ b0 b1,v=.func (.func 160) #[] #[ptr b0,ptr b1]∧Box L w b0 (ptr e)∧Box L w b1 (i64 s)
 |some (.head key)=>∃ b0 b1,v=.func (.func 178) #[] #[ptr b0,ptr b1]∧Box L w b0 (ptr e)∧Box L w b1 (i64 key)
 |some (.visit key ahead link)=>∃ b0 b1 b2 b3,v=.func (.func 194) #[] #[ptr b0,ptr b1,ptr b2,ptr b3]∧Box L w b0 (ptr e)∧Box L w b1 (u64 link)∧Box L w b2 (i64 key)∧Box L w b3 (u64 ahead)
 |some (.maker key ahead link id)=>∃ b0 b1 b2 b3 b4,v=.func (.func 204) #[] #[ptr b0,ptr b1,ptr b2,ptr b3,ptr b4]∧Box L w b0 (ptr e)∧Box L w b1 (i64 id)∧Box L w b2 (i64 key)∧Box L w b3 (u64 ahead)∧Box L w b4 (u64 link)
 |some (.garbage key ahead link b)=>∃ b0 b1 b2 b3 b4,v=.func (.func 207) #[] #[ptr b0,ptr b1,ptr b2,ptr b3,ptr b4]∧Box L w b0 (u64 b)∧Box L w b1 (ptr e)∧Box L w b2 (u64 link)∧Box L w b3 (i64 key)∧Box L w b4 (u64 ahead)
 |some (.on key link)=>∃ b0 b1 b2,v=.func (.func 223) #[] #[ptr b0,ptr b1,ptr b2]∧Box L w b0 (ptr e)∧Box L w b1 (i64 key)∧Box L w b2 (u64 link)
 |some (.unlink key ahead link)=>∃ b0 b1 b2 b3,v=.func (.func 221) #[] #[ptr b0,ptr b1,ptr b2,ptr b3]∧Box L w b0 (ptr e)∧Box L w b1 (u64 link)∧Box L w b2 (i64 key)∧Box L w b3 (u64 ahead)
 |some (.cut key ahead link nx)=>∃ b0 b1 b2 b3 b4,v=.func (.func 234) #[] #[ptr b0,ptr b1,ptr b2,ptr b3,ptr b4]∧Box L w b0 (u64 ahead)∧Box L w b1 (ptr e)∧Box L w b2 (u64 nx)∧Box L w b3 (i64 key)∧Box L w b4 (u64 link)
theorem SRep.grow {e:Nat} {L L':Lab} {w w':World} {v:Value} (g:Grow L w L' w'):∀ {k:Option S},SRep e L w v k→SRep e L' w' v k
 |none,h=>h
 |some .now,h=>h
 |some (.live s),h=>let ⟨b0,b1,e,k0,k1⟩:=h;⟨b0,b1,e,k0.grow g,k1.grow g⟩
 |some (.head key),h=>let ⟨b0,b1,e,k0,k1⟩:=h;⟨b0,b1,e,k0.grow g,k1.grow g⟩
 |some (.visit key ahead link),h=>let ⟨b0,b1,b2,b3,e,k0,k1,k2,k3⟩:=h;⟨b0,b1,b2,b3,e,k0.grow g,k1.grow g,k2.grow g,k3.grow g⟩
 |some (.maker key ahead link id),h=>let ⟨b0,b1,b2,b3,b4,e,k0,k1,k2,k3,k4⟩:=h;⟨b0,b1,b2,b3,b4,e,k0.grow g,k1.grow g,k2.grow g,k3.grow g,k4.grow g⟩
 |some (.garbage key ahead link b),h=>let ⟨b0,b1,b2,b3,b4,e,k0,k1,k2,k3,k4⟩:=h;⟨b0,b1,b2,b3,b4,e,k0.grow g,k1.grow g,k2.grow g,k3.grow g,k4.grow g⟩
 |some (.on key link),h=>let ⟨b0,b1,b2,e,k0,k1,k2⟩:=h;⟨b0,b1,b2,e,k0.grow g,k1.grow g,k2.grow g⟩
 |some (.unlink key ahead link),h=>let ⟨b0,b1,b2,b3,e,k0,k1,k2,k3⟩:=h;⟨b0,b1,b2,b3,e,k0.grow g,k1.grow g,k2.grow g,k3.grow g⟩
 |some (.cut key ahead link nx),h=>let ⟨b0,b1,b2,b3,b4,e,k0,k1,k2,k3,k4⟩:=h;⟨b0,b1,b2,b3,b4,e,k0.grow g,k1.grow g,k2.grow g,k3.grow g,k4.grow g⟩
def cutPs (l:List (Nat×Nat)):List Value:=l.flatMap fun p=>[u64 p.1,i64 p.2]
def CutOk (A:Book) (l:List (Nat×Nat)):Prop:=
 (A.hcut=false∧A.vcut=.slice none 0 0∧l=[])∨
 (A.hcut=true∧∃ k cap,A.vcut=.slice (some ⟨A.gcut,2*k,none⟩) l.length cap∧l.length≤cap∧k+cap≤maxLen∧2*(k+cap)≤A.cutCs.length∧(A.cutCs.drop (2*k)).take (2*l.length)=cutPs l)
structure SwRep (A:Book) (σ:St) (w:World):Prop where
 sw:SRep A.be A.L w (A.sv σ.sw) σ.sw
 cu:CutOk A σ.cut
def Book.bef (A:Book):Nat×(Value×Value×Bool×Nat×List Value):=(A.be,A.swf)
theorem bef_be {A A':Book} (h:A'.bef=A.bef):A'.be=A.be:=congrArg (·.1) h
theorem bef_sv {A A':Book} (h:A'.bef=A.bef) (x:Option S):A'.sv x=A.sv x:=by
 have:A'.vsweep=A.vsweep:=congrArg (·.2.1) h;unfold Book.sv;rw[this]
theorem CutOk.keep {A A':Book} {l:List (Nat×Nat)} (h:CutOk A l) (e:A'.bef=A.bef):CutOk A' l:=by
 have c1:A'.vcut=A.vcut:=congrArg (·.2.2.1) e;have c2:A'.hcut=A.hcut:=congrArg (·.2.2.2.1) e;have c3:A'.gcut=A.gcut:=congrArg (·.2.2.2.2.1) e;have c4:A'.cutCs=A.cutCs:=congrArg (·.2.2.2.2.2) e;unfold CutOk;rw[c1,c2,c3,c4];exact h
theorem SwRep.keep {A A':Book} {σ σ':St} {w w':World} (h:SwRep A σ w) (e:A'.bef=A.bef) (hs:σ'.sw=σ.sw∧σ'.cut=σ.cut) (g:Grow A.L w A'.L w'):SwRep A' σ' w':=
 ⟨by rw[bef_be e,bef_sv e,hs.1];exact h.sw.grow g,by rw[hs.2];exact h.cu.keep e⟩
end Go.Proofs.YtbefcdjcefmicaaGreat.Em
