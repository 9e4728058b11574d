import Derived.Laws.BitsAllLaws
import Derived.Laws.Bits64
import Derived.Laws.BitsLemmas
import Derived.OpenShut
import Derived.WalkLawsBesides
import Derived.WalkSpells
import Derived.Outline
import Derived.Test.YthicolbbmjfkfaaGreatQp1
import Derived.Laws.AppendOwnNone
import Derived.ArgAppend
import Derived.Deep.QuietTactic
import Derived.BigQuiet
import Derived.RegionTactic
import Derived.ChangeAlike
import Derived.Deep.RegionWith
import Derived.Deep.RegionHeld3
import Derived.Deep.DeepCutAuto
import Derived.StillTailTactics
namespace Go.Proofs.YthicolbbmjfkfaaGreat.Bt
open Go
set_option linter.unusedVariables false
set_option linter.unusedSimpArgs false
set_option maxRecDepth 100000
set_option maxHeartbeats 1600000
theorem emod_toNat (x:Int) (i:Nat) (hi:i≤64):(x % (2 ^ 64:Nat)).toNat % 2 ^ i=(x % (2 ^ i:Nat)).toNat:=by
 have hp:(0:Int)<((2 ^ i:Nat):Int):=by exact_mod_cast Nat.two_pow_pos i
 have hd:((2 ^ i:Nat):Int)∣((2 ^ 64:Nat):Int):=by exact_mod_cast Nat.pow_dvd_pow 2 hi
 have h1:(x % ((2 ^ 64:Nat):Int)) % ((2 ^ i:Nat):Int)=x % ((2 ^ i:Nat):Int):=Int.emod_emod_of_dvd x hd;have h0:0≤x % ((2 ^ 64:Nat):Int):=Int.emod_nonneg _ (by decide);rw[←h1];generalize x % ((2 ^ 64:Nat):Int)=y at h0 ⊢;obtain⟨n,rfl⟩:=Int.eq_ofNat_of_zero_le h0;rw[←Int.natCast_emod,Int.toNat_natCast,Int.toNat_natCast]
theorem and_mask_u64 (x:Int) (i:Nat) (hi:i≤63):bits .and .u64 x (((2 ^ i - 1:Nat)):Int)=x % ((2 ^ i:Nat):Int):=by
 have hlt:2 ^ i - 1<2 ^ 64:=Nat.lt_of_lt_of_le (Nat.sub_lt (Nat.two_pow_pos i) (by decide)) (Nat.pow_le_pow_right (by decide) (by omega));have hw:∀ n:Nat,n<2 ^ 63→IntKind.u64.wrap (n:Int)=n:=by
  intro n hn;rw[IntKind.wrap_u64];omega
 have hp:(0:Int)<((2 ^ i:Nat):Int):=by exact_mod_cast Nat.two_pow_pos i
 have h0:=Int.emod_nonneg x (Int.ne_of_gt hp);have hm:(x % ((2 ^ i:Nat):Int)).toNat<2 ^ i:=by
  have:=Int.emod_lt_of_pos x hp;omega
 show IntKind.u64.wrap (((BitVec.ofInt 64 x &&&BitVec.ofInt 64 ((2 ^ i - 1:Nat):Int)).toNat:Nat):Int)=_;rw[BitVec.ofInt_natCast,BitVec.toNat_and,BitVec.toNat_ofNat,BitVec.toNat_ofInt,Nat.mod_eq_of_lt hlt];rw[Nat.and_two_pow_sub_one_eq_mod,emod_toNat x i (by omega)];rw[hw _ (Nat.lt_of_lt_of_le hm (Nat.pow_le_pow_right (by decide) hi))];omega
theorem u64_and7 (x:Int):bits .and .u64 x 7=x % 8:=and_mask_u64 x 3 (by omega)
theorem u64_and65535 (x:Int):bits .and .u64 x 65535=x % 65536:=and_mask_u64 x 16 (by omega)
theorem u64_and131071 (x:Int):bits .and .u64 x 131071=x % 131072:=and_mask_u64 x 17 (by omega)
theorem nat_bit40 (n:Nat):n &&&1099511627776=n / 1099511627776 % 2*1099511627776:=nat_bit 40 n
theorem u64_andBit40 (x:Int) (h0:0≤x) (h1:x<18446744073709551616):bits .and .u64 x 1099511627776=x / 1099511627776 % 2*1099511627776:=by
 rw[u64_and x 1099511627776 h0 h1 (by decide) (by decide)];show ((x.toNat &&&1099511627776:Nat):Int)=_;rw[nat_bit40];omega
theorem u64_link (t s:Int) (h0:0≤t) (h1:t≤65535) (h2:0≤s) (h3:s≤65536):bits .or .u64 (t*131072) s=t*131072+s:=by
 obtain⟨a,rfl⟩:=Int.eq_ofNat_of_zero_le h0;obtain⟨b,rfl⟩:=Int.eq_ofNat_of_zero_le h2;rw[u64_or _ _ (by omega) (by omega) (by omega) (by omega)];rw[show ((a:Int)*131072).toNat=2 ^ 17*a from by omega,show ((b:Int)).toNat=b from by omega];rw[←Nat.two_pow_add_eq_or_of_lt (i:=17) (b:=b) (by omega) a];omega
theorem u64_or3 (t s:Int) (h0:0≤t) (h1:t<2305843009213693952) (h2:0≤s) (h3:s<8):bits .or .u64 (t*8) s=t*8+s:=by
 obtain⟨a,rfl⟩:=Int.eq_ofNat_of_zero_le h0;obtain⟨b,rfl⟩:=Int.eq_ofNat_of_zero_le h2;rw[u64_or _ _ (by omega) (by omega) (by omega) (by omega)];rw[show ((a:Int)*8).toNat=2 ^ 3*a from by omega,show ((b:Int)).toNat=b from by omega];rw[←Nat.two_pow_add_eq_or_of_lt (i:=3) (b:=b) (by omega) a];omega
theorem u64_or16 (t s:Int) (h0:0≤t) (h1:t<281474976710656) (h2:0≤s) (h3:s<65536):bits .or .u64 (t*65536) s=t*65536+s:=by
 obtain⟨a,rfl⟩:=Int.eq_ofNat_of_zero_le h0;obtain⟨b,rfl⟩:=Int.eq_ofNat_of_zero_le h2;rw[u64_or _ _ (by omega) (by omega) (by omega) (by omega)];rw[show ((a:Int)*65536).toNat=2 ^ 16*a from by omega,show ((b:Int)).toNat=b from by omega];rw[←Nat.two_pow_add_eq_or_of_lt (i:=16) (b:=b) (by omega) a];omega
end Go.Proofs.YthicolbbmjfkfaaGreat.Bt
namespace Go.Proofs.YthicolbbmjfkfaaGreat.Word
open Go.ChangeShapes Go.WideShapes Go.ChangeAt Go.RowKit
set_option linter.unusedVariables false
set_option linter.unusedSimpArgs false
set_option maxRecDepth 100000
set_option maxHeartbeats 1600000
theorem forever_any (w:World):Calls Tryz.prog 127 #[] w fun e w'=>e=.returned (.int .u64 2305843009213693952)∧w=w':=by
 go_enter Tryz.func127,Tryz.ntmps127;go_wp2;go_ret;exact⟨rfl,rfl⟩
theorem time_yes (t:Int) (h0:0≤t) (h1:t≤1099511627776) (w:World):Calls Tryz.prog 185 #[.int .u64 t] w fun e w'=>e=.returned (.tuple #[.int .u64 t,.bool true])∧w=w':=by
 go_enter Tryz.func185,Tryz.ntmps185;go_wp2
 go_ret2
 exact⟨rfl,rfl⟩
theorem txn_yes (t:Int) (h0:1≤t) (h1:t≤65535) (w:World):Calls Tryz.prog 148 #[.int .i64 t] w fun e w'=>e=.returned (.tuple #[.int .u64 (4611686018427387904+t),.bool true])∧w=w':=by
 go_enter Tryz.func148,Tryz.ntmps148;go_wp2
 go_ret2
 exact⟨rfl,rfl⟩
def rdK (t:Int):Int:=if t≤1099511627776 then 1 else if t=2305843009213693952 then 3 else if 4611686018427387904<t∧t≤4611686018427453439 then 2 else 0
def rdN (t:Int):Int:=if t≤1099511627776 then t else if 4611686018427387904<t∧t≤4611686018427453439 then t - 4611686018427387904 else 0
theorem read_any (t:Int) (h0:0≤t) (hu:t<18446744073709551616) (w:World):Calls Tryz.prog 108 #[.int .u64 t] w fun e w'=>e=.returned (.agg #[.int .i64 (rdK t),.int .u64 (rdN t)])∧Below w.heap.size w w':=by
 unfold rdK rdN
 by_cases h1:t≤1099511627776
 · rw[if_pos h1,if_pos h1]
   go_enter Tryz.func108,Tryz.ntmps108;go_wp2;exact bodyPost_ret (v:=.agg #[.int .i64 1,.int .u64 t]) (by simp[results,Tryz.results108,go_sem]) rfl ⟨rfl,(Below.refl _ _).alloc (Nat.le_refl _) _⟩
 · rw[if_neg h1,if_neg h1]
   by_cases h2:t=2305843009213693952
   · subst h2
     go_enter Tryz.func108,Tryz.ntmps108;go_wp2;exact bodyPost_ret (v:=.agg #[.int .i64 3,.int .u64 0]) (by simp[results,Tryz.results108,go_sem]) rfl ⟨rfl,(Below.refl _ _).alloc (Nat.le_refl _) _⟩
   · rw[if_neg h2]
     have e2:(t==2305843009213693952)=false:=beq_eq_false_iff_ne.2 h2
     by_cases h3:4611686018427387904<t∧t≤4611686018427453439
     · rw[if_pos h3,if_pos h3]
       obtain⟨h3,h4⟩:=h3;go_enter Tryz.func108,Tryz.ntmps108;go_wp2;exact bodyPost_ret (v:=.agg #[.int .i64 2,.int .u64 (t - 4611686018427387904)]) (by simp[results,Tryz.results108,go_sem]) rfl ⟨rfl,(Below.refl _ _).alloc (Nat.le_refl _) _⟩
     · rw[if_neg h3,if_neg h3]
       by_cases h4:4611686018427387904<t
       · have h5:4611686018427453439<t:=by omega
         clear h3;go_enter Tryz.func108,Tryz.ntmps108;go_wp2;exact bodyPost_ret (v:=.agg #[.int .i64 0,.int .u64 0]) (by simp[results,Tryz.results108,go_sem]) rfl ⟨rfl,(Below.refl _ _).alloc (Nat.le_refl _) _⟩
       · clear h3
         go_enter Tryz.func108,Tryz.ntmps108;go_wp2;exact bodyPost_ret (v:=.agg #[.int .i64 0,.int .u64 0]) (by simp[results,Tryz.results108,go_sem]) rfl ⟨rfl,(Below.refl _ _).alloc (Nat.le_refl _) _⟩
theorem link_yes (s t:Int) (h0:0≤s) (h1:s≤65535) (h2:0≤t) (h3:t≤65535) (w:World):Calls Tryz.prog 178 #[.int .i64 s,.int .i64 t] w fun e w'=>e=.returned (.tuple #[.int .u64 (t*131072+(s+1)),.bool true])∧w=w':=by
 have e1:=Bt.u64_link t (s+1) h2 h3 (by omega) (by omega);go_enter Tryz.func178,Tryz.ntmps178;go_wp2
 go_ret2
 exact⟨rfl,rfl⟩
theorem w64_id (x:Int) (h0:-9223372036854775808≤x) (h1:x<9223372036854775808):wrap64 x=x:=by
 unfold wrap64;omega
theorem ret_iib {a b a' b':Int} {c c':Bool} (h1:a=a') (h2:b=b') (h3:c=c'):Ending.returned (.tuple #[.int .i64 a,.int .i64 b,.bool c])=.returned (.tuple #[.int .i64 a',.int .i64 b',.bool c']):=by
 rw[h1,h2,h3]
theorem unlink_any (t:Int) (h0:0≤t) (hu:t<18446744073709551616) (w:World):Calls Tryz.prog 107 #[.int .u64 t] w fun e w'=>e=.returned (.tuple #[.int .i64 (t % 131072 - 1),.int .i64 (t / 131072 % 65536),.bool (t / 1099511627776 % 2==1)])∧w=w':=by
 go_enter Tryz.func107,Tryz.ntmps107;go_wp2
 go_ret3
 refine⟨ret_iib ?_ ?_ ?_,rfl⟩
 · rw[Bt.u64_and131071,w64_id (t % 131072) (by omega) (by omega),w64_id _ (by omega) (by omega)]
 · rw[Bt.u64_and65535,w64_id _ (by omega) (by omega)]
 · rw[Bt.u64_andBit40 t h0 hu,Bool.eq_iff_iff]
   simp only[bne_iff_ne,beq_iff_eq];omega
end Go.Proofs.YthicolbbmjfkfaaGreat.Word
namespace Go.Proofs.YthicolbbmjfkfaaGreat.Em
open Go.ChangeShapes Go.WideShapes Go.ChangeAt Go.RowKit En
set_option linter.unusedVariables false
set_option linter.unusedSimpArgs false
set_option maxRecDepth 100000
set_option maxHeartbeats 1600000
def SRep (e:Nat) (L:Lab) (w:World) (v:Value):Option S→Prop
 |none=>v=.nilFunc
 |some .now=>v=.func (.func 74) #[ptr e] #[]
 |some (.live s)=>∃ b0 b1,v=.func (.func 136) #[] #[ptr b0,ptr b1]∧Box L w b0 (ptr e)∧Box L w b1 (i64 s)
 |some (.head key)=>∃ b0 b1,v=.func (.func 159) #[] #[ptr b0,ptr b1]∧Box L w b0 (ptr e)∧Box L w b1 (i64 key)
 |some (.visit key ahead link)=>∃ b0 b1 b2 b3,v=.func (.func 179) #[] #[ptr b0,ptr b1,ptr b2,ptr b3]∧Box L w b0 (ptr e)∧Box L w b1 (u64 link)∧Box L w b2 (i64 key)∧Box L w b3 (u64 ahead)
 |some (.maker key ahead link id)=>∃ b0 b1 b2 b3 b4,v=.func (.func 195) #[] #[ptr b0,ptr b1,ptr b2,ptr b3,ptr b4]∧Box L w b0 (ptr e)∧Box L w b1 (i64 id)∧Box L w b2 (i64 key)∧Box L w b3 (u64 ahead)∧Box L w b4 (u64 link)
 |some (.garbage key ahead link b)=>∃ b0 b1 b2 b3 b4,v=.func (.func 198) #[] #[ptr b0,ptr b1,ptr b2,ptr b3,ptr b4]∧Box L w b0 (u64 b)∧Box L w b1 (ptr e)∧Box L w b2 (u64 link)∧Box L w b3 (i64 key)∧Box L w b4 (u64 ahead)
 |some (.on key link)=>∃ b0 b1 b2,v=.func (.func 209) #[] #[ptr b0,ptr b1,ptr b2]∧Box L w b0 (ptr e)∧Box L w b1 (i64 key)∧Box L w b2 (u64 link)
 |some (.unlink key ahead link)=>∃ b0 b1 b2 b3,v=.func (.func 207) #[] #[ptr b0,ptr b1,ptr b2,ptr b3]∧Box L w b0 (ptr e)∧Box L w b1 (u64 link)∧Box L w b2 (i64 key)∧Box L w b3 (u64 ahead)
 |some (.cut key ahead link nx)=>∃ b0 b1 b2 b3 b4,v=.func (.func 222) #[] #[ptr b0,ptr b1,ptr b2,ptr b3,ptr b4]∧Box L w b0 (u64 ahead)∧Box L w b1 (ptr e)∧Box L w b2 (u64 nx)∧Box L w b3 (i64 key)∧Box L w b4 (u64 link)
theorem SRep.grow {e:Nat} {L L':Lab} {w w':World} {v:Value} (g:Grow L w L' w'):∀ {k:Option S},SRep e L w v k→SRep e L' w' v k
 |none,h=>h
 |some .now,h=>h
 |some (.live s),h=>let ⟨b0,b1,e,k0,k1⟩:=h;⟨b0,b1,e,k0.grow g,k1.grow g⟩
 |some (.head key),h=>let ⟨b0,b1,e,k0,k1⟩:=h;⟨b0,b1,e,k0.grow g,k1.grow g⟩
 |some (.visit key ahead link),h=>let ⟨b0,b1,b2,b3,e,k0,k1,k2,k3⟩:=h;⟨b0,b1,b2,b3,e,k0.grow g,k1.grow g,k2.grow g,k3.grow g⟩
 |some (.maker key ahead link id),h=>let ⟨b0,b1,b2,b3,b4,e,k0,k1,k2,k3,k4⟩:=h;⟨b0,b1,b2,b3,b4,e,k0.grow g,k1.grow g,k2.grow g,k3.grow g,k4.grow g⟩
 |some (.garbage key ahead link b),h=>let ⟨b0,b1,b2,b3,b4,e,k0,k1,k2,k3,k4⟩:=h;⟨b0,b1,b2,b3,b4,e,k0.grow g,k1.grow g,k2.grow g,k3.grow g,k4.grow g⟩
 |some (.on key link),h=>let ⟨b0,b1,b2,e,k0,k1,k2⟩:=h;⟨b0,b1,b2,e,k0.grow g,k1.grow g,k2.grow g⟩
 |some (.unlink key ahead link),h=>let ⟨b0,b1,b2,b3,e,k0,k1,k2,k3⟩:=h;⟨b0,b1,b2,b3,e,k0.grow g,k1.grow g,k2.grow g,k3.grow g⟩
 |some (.cut key ahead link nx),h=>let ⟨b0,b1,b2,b3,b4,e,k0,k1,k2,k3,k4⟩:=h;⟨b0,b1,b2,b3,b4,e,k0.grow g,k1.grow g,k2.grow g,k3.grow g,k4.grow g⟩
def cutPs (l:List (Nat×Nat)):List Value:=l.flatMap fun p=>[u64 p.1,i64 p.2]
def CutOk (A:Book) (l:List (Nat×Nat)):Prop:=
 (A.hcut=false∧A.vcut=.slice none 0 0∧l=[])∨
 (A.hcut=true∧∃ k cap,A.vcut=.slice (some ⟨A.gcut,2*k,none⟩) l.length cap∧l.length≤cap∧k+cap≤maxLen∧2*(k+cap)≤A.cutCs.length∧(A.cutCs.drop (2*k)).take (2*l.length)=cutPs l)
structure SwRep (A:Book) (σ:St) (w:World):Prop where
 sw:SRep A.be A.L w (A.sv σ.sw) σ.sw
 cu:CutOk A σ.cut
def Book.bef (A:Book):Nat×(Value×Value×Bool×Nat×List Value):=(A.be,A.swf)
theorem bef_be {A A':Book} (h:A'.bef=A.bef):A'.be=A.be:=congrArg (·.1) h
theorem bef_sv {A A':Book} (h:A'.bef=A.bef) (x:Option S):A'.sv x=A.sv x:=by
 have:A'.vsweep=A.vsweep:=congrArg (·.2.1) h;unfold Book.sv;rw[this]
theorem CutOk.keep {A A':Book} {l:List (Nat×Nat)} (h:CutOk A l) (e:A'.bef=A.bef):CutOk A' l:=by
 have c1:A'.vcut=A.vcut:=congrArg (·.2.2.1) e;have c2:A'.hcut=A.hcut:=congrArg (·.2.2.2.1) e;have c3:A'.gcut=A.gcut:=congrArg (·.2.2.2.2.1) e;have c4:A'.cutCs=A.cutCs:=congrArg (·.2.2.2.2.2) e;unfold CutOk;rw[c1,c2,c3,c4];exact h
theorem SwRep.keep {A A':Book} {σ σ':St} {w w':World} (h:SwRep A σ w) (e:A'.bef=A.bef) (hs:σ'.sw=σ.sw∧σ'.cut=σ.cut) (g:Grow A.L w A'.L w'):SwRep A' σ' w':=
 ⟨by rw[bef_be e,bef_sv e,hs.1];exact h.sw.grow g,by rw[hs.2];exact h.cu.keep e⟩
end Go.Proofs.YthicolbbmjfkfaaGreat.Em
namespace Go.Proofs.YthicolbbmjfkfaaGreat.Ow
open Go.ChangeShapes Go.WideShapes Go.ChangeAt Go.RowKit
set_option linter.unusedVariables false
set_option linter.unusedSimpArgs false
set_option maxRecDepth 100000
set_option maxHeartbeats 1600000
theorem own_below {w w1:World} {base:Nat} {e:TypeId} {size:Nat} {v:Value} {n:Nat} {xs:List Value} (h:w.ownsRow base e size v n xs) (hb:Below w.heap.size w w1):w1.ownsRow base e size v n xs:=by
 refine⟨h.1,?_⟩
 rcases h.2 with h0|⟨g,cap,cur,h1,h2,h3,h4⟩
 · exact .inl h0
 · refine .inr ⟨g,cap,cur,h1,h2,?_,h4⟩
   have hlt:g<w.heap.size:=(Array.getElem?_eq_some_iff.1 h3).1;rw[hb.block g hlt,h3]
def Row (w:World) (base size:Nat) (v:Value) (xs:List Value):Prop:=
 ∃ a n cap,v=.slice a n cap∧xs.length=n*size∧n≤cap∧cap≤maxLen∧(n=0∨∃ g off,a=some ⟨g,off,none⟩∧base≤g∧g<w.heap.size∧∀ j,j<n*size→w.cell? ⟨g,off+j,none⟩=xs[j]?)
theorem Row.below {w w1:World} {base size:Nat} {v:Value} {xs:List Value} (h:Row w base size v xs) (hb:Below w.heap.size w w1):Row w1 base size v xs:=by
 obtain⟨a,n,cap,h1,h2,h3,h4,h5⟩:=h;refine⟨a,n,cap,h1,h2,h3,h4,?_⟩
 rcases h5 with h5|⟨g,off,e1,e2,e3,e4⟩
 · exact .inl h5
 · refine .inr ⟨g,off,e1,e2,Nat.lt_of_lt_of_le e3 hb.size,fun j hj=>?_⟩
   rw[hb.cell (p:=⟨g,off+j,none⟩) e3];exact e4 j hj
theorem own_form {w:World} {base:Nat} {e:TypeId} {size:Nat} {v:Value} {n:Nat} {xs:List Value} (h:w.ownsRow base e size v n xs):∃ a cap,v=.slice a n cap∧n≤cap∧cap≤9223372036854775807∧Row w base size (.slice a n n) xs:=by
 rcases h.2 with ⟨h0,hn⟩|⟨g,cap,cur,h1,h2,h3,h4,h5,h6,h7⟩
 · subst hn;exact⟨none,0,h0,by omega,by omega,none,0,0,rfl,h.1,by omega,by unfold maxLen;omega,.inl rfl⟩
 · have hm:=h5
   unfold maxLen at hm;refine⟨some ⟨g,0,none⟩,cap,h1,h4,hm,some ⟨g,0,none⟩,n,n,rfl,h.1,by omega,by omega,.inr ⟨g,0,rfl,h2,(Array.getElem?_eq_some_iff.1 h3).1,fun j hj=>?_⟩⟩;subst h1;rw[Nat.zero_add];exact h.cellAt j hj
theorem new_row (w:World) (cs:List Value) (T:TypeId) (g:Nat) (hg:g=w.heap.size) (j:Nat) (u:Value) (h:cs[j]? =some u):(w.alloc (.cells cs.toArray T)).cell? ((⟨g,0,none⟩:Addr).add j)=some u:=by
 subst hg;have e:(⟨w.heap.size,0,none⟩:Addr).add j=⟨w.heap.size,j,none⟩:=by simp[Addr.add];exact fun h=>h.symm
 rw[e,World.cell?_alloc_at _ _ _ _ rfl]
 simpa using h
theorem grown_below {w w1 w2:World} {base:Nat} {e:TypeId} {size:Nat} {v:Value} {n:Nat} {xs:List Value} (h:w1.ownsRow base e size v n xs) (hb:Below base w w1) (hs:base≤w1.heap.size) (hg:w1.grownBy w2 v.ownBlock):Below base w w2:=
 hb.grown hg hs (fun k hk=>(h.lt k hk).1)
theorem below_base {w w1 w2:World} (h:Below w.heap.size w w1) (k:Below w1.heap.size w1 w2):Below w.heap.size w w2:=h.trans (k.mono h.size)
theorem run_append_none {P:Program} {w:World} (base:Nat) (t ty e:TypeId) (i:TypeInfo) (size:Nat) (ht:P.underlying t=some (.slice e)) (hi:P.info? e=some i)
 (v:Value) (n c:Nat) (xs:List Value) (hown:w.ownsRow base e size v n xs):
 (Builtin.append_ #[t,t] ty #[v,.slice none 0 c]).run P w=.ok v w:=by
 rcases hown.2 with ⟨rfl,rfl⟩|⟨g,cap,cur,rfl,_,_,hnc,_⟩
 · simp[Builtin.append_,run_underlying ht,sizeOf,typeInfo,hi,Builtin.lenOf,Builtin.firstCells]
 · simp[Builtin.append_,run_underlying ht,sizeOf,typeInfo,hi,Builtin.lenOf,Builtin.firstCells,hnc,storeCells]
theorem wpList_append_row {P:Program} {ops:Array Oper} {rest:List Oper} {o:Oper} {a:Act} {Q:Exit→Act→World→Prop} (w:World) (hgd:o.guard=none) (s x:Operand) (t:TypeId)
 (ho:o.op=.call {callee:=.builtin .append,args:=#[s,x],argTypes:=#[t,t]})
 (base:Nat) (e:TypeId) (i:TypeInfo) (z:Value) (size bytes:Nat) (ht:P.underlying t=some (.slice e)) (hi:P.info? e=some i) (hz:i.zero=some z)
 (hsize:i.size=size) (hby:i.bytes=bytes) (hzs:z.cells.size=size) (hsz:0<size)
 (v:Value) (n:Nat) (xs:List Value) (hs:a.eval s=v) (hown:w.ownsRow base e size v n xs)
 (bx:Nat) (xv:Value) (news:List Value) (hx:a.eval x=xv) (hr:Row w bx size xv news) (m:Nat) (hl:news.length=m*size) (h1:∀ u∈news,u.oneCell'=true)
 (h63:n+m≤maxLen) (hbytes:(n+m)*bytes≤140737488355328) (hbase:base≤w.heap.size)
 (h:∀ v' w',w'.ownsRow base e size v' (n+m) (xs++news)→w.grownBy w' v.ownBlock→wpList P ops Q rest (a.put o.dst v') w'):wpList P ops Q (o::rest) a w:=by
 obtain⟨ao,m',c,rfl,hm',hmc,hcm,hcell⟩:=hr;obtain rfl:m=m':=by
  rw[hl] at hm';exact Nat.eq_of_mul_eq_mul_right hsz hm'
 cases ao with
 |none=>
  have hm0:m=0:=by
   rcases hcell with h0|⟨g,off,h0,_⟩
   · exact h0
   · cases h0
  subst hm0;obtain rfl:news=[]:=List.eq_nil_of_length_eq_zero (by simpa using hl);refine wpList_plain hgd fun K hK=>?_
  have hrun:=run_append_none (P:=P) (w:=w) base t o.type e i size ht hi v n c xs hown;unfold Oper.wp;simp[execOp,ho,resolve,invoke,builtin,hs,hx,hrun,Result.andThen];exact hK _ _ (h v w (by simpa using hown) ⟨rfl,rfl,rfl,Nat.le_refl _,fun _ _ _=>rfl⟩)
 |some ad=>
  have hnews:∀ j u,news[j]? =some u→w.cell? (ad.add j)=some u:=by
   intro j u hj;have hjl:j<news.length:=(List.getElem?_eq_some_iff.1 hj).1
   rcases hcell with h0|⟨g,off,h0,_,_,hc⟩
   · subst h0;omega
   · simp only[Option.some.injEq] at h0
     subst h0;have e1:(⟨g,off,none⟩:Addr).add j=⟨g,off+j,none⟩:=by
      unfold Addr.add;split
      · rename_i h;subst h;rfl
      · rfl
     rw[e1,hc j (by omega)];exact hj
  exact wpList_append_own w hgd s x t ho base e i z size bytes ht hi hz hsize hby hzs hsz v n xs hs hown ad m c news hx hl hnews h1 h63 hbytes hbase fun v' w' h2 h3 _=>h v' w' h2 h3
theorem append_where {P:Program} (w:World) (base:Nat) (t ty e:TypeId) (i:TypeInfo) (z:Value) (size bytes:Nat) (ht:P.underlying t=some (.slice e)) (hi:P.info? e=some i) (hz:i.zero=some z)
 (hsize:i.size=size) (hby:i.bytes=bytes) (hzs:z.cells.size=size) (hsz:0<size)
 (v:Value) (n:Nat) (xs:List Value) (hown:w.ownsRow base e size v n xs)
 (a:Addr) (m c:Nat) (hm:0<m) (news:List Value) (hl:news.length=m*size) (hnews:∀ j u,news[j]? =some u→w.cell? (a.add j)=some u) (h1:∀ u∈news,u.oneCell'=true)
 (h63:n+m≤maxLen) (hbytes:(n+m)*bytes≤140737488355328) (v':Value) (w':World)
 (hr':(Builtin.append_ #[t,t] ty #[v,.slice (some a) m c]).run P w=.ok v' w'):
 v'.ownBlock=v.ownBlock∨∀ g,v'.ownBlock=some g→w.heap.size≤g:=by
 subst hsize;subst hby;have hsmall:n+m≤9223372036854775807:=by simp only[maxLen] at h63;omega
 rcases hown.2 with ⟨rfl,rfl⟩|⟨g,cap,cur,rfl,hbg,hg,hnc,hcm,hcs,htake⟩
 · have hr:=run_append_nil (P:=P) w t ty e i z ht hi hz a m c news hl hnews (by omega) (by omega) (by have hb:=hbytes;simp only[Nat.zero_add] at hb;omega)
   rw[hr] at hr';injection hr' with e1 e2
   subst e1;right;intro g hg;simp only[Value.ownBlock,Option.some.injEq] at hg;omega
 · by_cases hroom:n+m≤cap
   · have hfit:n*i.size+news.length≤cur.size:=by rw[hl,hcs,←Nat.add_mul];exact Nat.mul_le_mul_right _ hroom
     have hr:=run_append_room (P:=P) w t ty e i ht hi g n cap cur hg a m c news hl hnews h1 hroom hfit;rw[hr] at hr';injection hr' with e1 e2
     subst e1;left;rfl
   · have holds:∀ j u,xs[j]? =some u→w.cell? ((⟨g,0,none⟩:Addr).add j)=some u:=hown.cells (g:=g) rfl
     have hr:=run_append_grow (P:=P) w t ty e i z ht hi hz ⟨g,0,none⟩ n cap xs hown.1 holds a m c news hl hnews (by omega) (by omega) (growslice_fits (by omega) hbytes);rw[hr] at hr';injection hr' with e1 e2
     subst e1;right;intro g hg;simp only[Value.ownBlock,Option.some.injEq] at hg;omega
theorem wpList_append_to {P:Program} {ops:Array Oper} {rest:List Oper} {o:Oper} {a:Act} {Q:Exit→Act→World→Prop} (w:World) (hgd:o.guard=none) (s x:Operand) (t:TypeId)
 (ho:o.op=.call {callee:=.builtin .append,args:=#[s,x],argTypes:=#[t,t]})
 (base:Nat) (e:TypeId) (i:TypeInfo) (z:Value) (size bytes:Nat) (ht:P.underlying t=some (.slice e)) (hi:P.info? e=some i) (hz:i.zero=some z)
 (hsize:i.size=size) (hby:i.bytes=bytes) (hzs:z.cells.size=size) (hsz:0<size)
 (v:Value) (n:Nat) (xs:List Value) (hs:a.eval s=v) (hown:w.ownsRow base e size v n xs)
 (ad:Addr) (m c:Nat) (hm:0<m) (news:List Value) (hx:a.eval x=.slice (some ad) m c) (hl:news.length=m*size) (hnews:∀ j u,news[j]? =some u→w.cell? (ad.add j)=some u) (h1:∀ u∈news,u.oneCell'=true)
 (h63:n+m≤maxLen) (hbytes:(n+m)*bytes≤140737488355328) (hbase:base≤w.heap.size)
 (h:∀ v' w',w'.ownsRow base e size v' (n+m) (xs++news)→w.grownBy w' v.ownBlock→(v'.ownBlock=v.ownBlock∨∀ g,v'.ownBlock=some g→w.heap.size≤g)→wpList P ops Q rest (a.put o.dst v') w'):
 wpList P ops Q (o::rest) a w:=by
 refine wpList_plain hgd fun _ hK=>?_
 obtain⟨v',w',hr,h2,h3,_⟩:=run_append_own (P:=P) w base t o.type e i z size bytes ht hi hz hsize hby hzs hsz v n xs hown ad m c news hl hnews h1 h63 hbytes hbase;have h4:=append_where (P:=P) w base t o.type e i z size bytes ht hi hz hsize hby hzs hsz v n xs hown ad m c hm news hl hnews h1 h63 hbytes v' w' hr;unfold Oper.wp execOp;simp only[ho,resolve,invoke,builtin,Sem.run_bind,Sem.run_pure,Result.andThen_ok,List.map_toArray,List.map_cons,List.map_nil,hs,hx,hr];exact hK _ _ (h v' w' h2 h3 h4)
theorem wp_append_to {P:Program} (w:World) {o:Oper} {a:Act} {K:Act→World→Prop} {Q:Exit→Act→World→Prop} (s x:Operand) (t:TypeId)
 (ho:o.op=.call {callee:=.builtin .append,args:=#[s,x],argTypes:=#[t,t]})
 (base:Nat) (e:TypeId) (i:TypeInfo) (z:Value) (size bytes:Nat) (ht:P.underlying t=some (.slice e)) (hi:P.info? e=some i) (hz:i.zero=some z)
 (hsize:i.size=size) (hby:i.bytes=bytes) (hzs:z.cells.size=size) (hsz:0<size)
 (v:Value) (n:Nat) (xs:List Value) (hs:a.eval s=v) (hown:w.ownsRow base e size v n xs)
 (ad:Addr) (m c:Nat) (hm:0<m) (news:List Value) (hx:a.eval x=.slice (some ad) m c) (hl:news.length=m*size) (hnews:∀ j u,news[j]? =some u→w.cell? (ad.add j)=some u) (h1:∀ u∈news,u.oneCell'=true)
 (h63:n+m≤maxLen) (hbytes:(n+m)*bytes≤140737488355328) (hbase:base≤w.heap.size)
 (h:∀ v' w',w'.ownsRow base e size v' (n+m) (xs++news)→w.grownBy w' v.ownBlock→(v'.ownBlock=v.ownBlock∨∀ g,v'.ownBlock=some g→w.heap.size≤g)→K (a.put o.dst v') w'):o.wp P a w K Q:=by
 obtain⟨v',w',hr,h2,h3,_⟩:=run_append_own (P:=P) w base t o.type e i z size bytes ht hi hz hsize hby hzs hsz v n xs hown ad m c news hl hnews h1 h63 hbytes hbase;have h4:=append_where (P:=P) w base t o.type e i z size bytes ht hi hz hsize hby hzs hsz v n xs hown ad m c hm news hl hnews h1 h63 hbytes v' w' hr;unfold Oper.wp execOp;simp only[ho,resolve,invoke,builtin,Sem.run_bind,Sem.run_pure,Result.andThen_ok,List.map_toArray,List.map_cons,List.map_nil,hs,hx,hr];exact h v' w' h2 h3 h4
end Go.Proofs.YthicolbbmjfkfaaGreat.Ow
namespace Go.Proofs.YthicolbbmjfkfaaGreat.Plan
open Go.ChangeShapes Go.WideShapes Go.ChangeAt Go.RowKit
set_option linter.unusedVariables false
set_option linter.unusedSimpArgs false
set_option maxRecDepth 100000
set_option maxHeartbeats 1600000
structure En where
 k:Int
 s:Int
 lv:Int
 ok:Int
 oy:Int
 oh:Int
 ov:Int
abbrev enV (e:En):Value:=.agg #[.int .i64 e.k,.int .i64 e.s,.int .i64 e.lv,.int .i64 e.ok,.int .i64 e.oy,.int .i64 e.oh,.int .i64 e.ov]
def badE:En:=⟨5,0,0,0,0,0,0⟩
def isE (s w k l:Int):En:=
 if w % 8≠0∨w / 8<1∨7<w / 8 then badE
 else if w / 8=5 then ⟨2,s,0,5,k,l,0⟩
 else if w / 8=2∨w / 8=3 then ⟨2,s,0,w / 8,k,0,l⟩
 else if l≠0∨(6≤w / 8∧k≠0) then badE else ⟨2,s,0,w / 8,k,0,0⟩
def enE (b0 b1 b2 b3 b4:Int):En:=
 if 8≤b1 then badE
 else if b0=0∧1≤b2∧b2≤3∧b3=0∧b4=0 then ⟨1,b1,b2,0,0,0,0⟩
 else if b0=1 then isE b1 b2 b3 b4
 else if (b0=2∨b0=3∧b1=0)∧b2=0∧b3=0∧b4=0 then ⟨b0+1,b1,0,0,0,0,0⟩ else badE
theorem bad_any (w:World):Calls Tryz.prog 91 #[] w fun e w'=>e=.returned (.agg #[.int .i64 5,.int .i64 0,.int .i64 0,.int .i64 0,.int .i64 0,.int .i64 0,.int .i64 0])∧w.alloc (.cells #[.int .i64 5,.int .i64 0,.int .i64 0,.int .i64 0,.int .i64 0,.int .i64 0,.int .i64 0] 71)=w':=by
 go_enter Tryz.func91,Tryz.ntmps91;go_wp2;exact bodyPost_ret (v:=.agg #[.int .i64 5,.int .i64 0,.int .i64 0,.int .i64 0,.int .i64 0,.int .i64 0,.int .i64 0]) (by simp[results,Tryz.results91,go_sem]) rfl ⟨rfl,rfl⟩
theorem below_allocs1 (w:World) (o:Obj):Below w.heap.size w (w.alloc o):=(Below.refl _ _).alloc (Nat.le_refl _) _
theorem below_allocs2 (w:World) (o o':Obj):Below w.heap.size w ((w.alloc o).alloc o'):=(below_allocs1 w o).alloc (by simp) _
theorem below_allocs3 (w:World) (o o' o'':Obj):Below w.heap.size w (((w.alloc o).alloc o').alloc o''):=(below_allocs2 w o o').alloc (by simp;omega) _
set_option maxRecDepth 100000 in
set_option maxHeartbeats 8000000 in
theorem issue_any (s b k l:Int) (b0:0≤b) (b1:b<256) (k0:0≤k) (k1:k<256) (l0:0≤l) (l1:l<256) (w:World):
 Calls Tryz.prog 112 #[.int .i64 s,.int .u8 b,.int .u8 k,.int .u8 l] w fun e w'=>e=.returned (enV (isE s b k l))∧Below w.heap.size w w':=by
 obtain⟨E,hE⟩:∃ E,E=isE s b k l:=⟨_,rfl⟩
 have HE:=Lib.hid hE;rw[←hE];clear hE;unfold enV;go_enter Tryz.func112,Tryz.ntmps112;go_wp2_with (go_at_call 91;refine (bad_any _).mono ?_;rintro e w' ⟨rfl,rfl⟩)
 all_goals (
  try simp only[bne_iff_ne,ne_eq,beq_iff_eq,bne_eq_false_iff_eq,beq_eq_false_iff_ne] at*
  have hE:=HE.out
  unfold isE at hE
  first
  | (rw [if_pos (by omega)] at hE
     subst hE
     exact bodyPost_ret (v:=enV badE) (by first|(simp[results,Tryz.results112,go_sem,badE];done)|(simp[results,Tryz.results112,go_sem,badE];omega)) rfl ⟨rfl,by first|exact below_allocs1 _ _|exact below_allocs2 _ _ _|exact below_allocs3 _ _ _ _⟩)
  | (rw [if_neg (by omega), if_pos (by omega)] at hE
     subst hE
     exact bodyPost_ret (v:=enV ⟨2,s,0,5,k,l,0⟩) (by first|(simp[results,Tryz.results112,go_sem];done)|(simp[results,Tryz.results112,go_sem];omega)) rfl ⟨rfl,by first|exact below_allocs1 _ _|exact below_allocs2 _ _ _|exact below_allocs3 _ _ _ _⟩)
  | (rw [if_neg (by omega), if_neg (by omega), if_pos (by omega)] at hE
     subst hE
     exact bodyPost_ret (v:=enV ⟨2,s,0,b / 8,k,0,l⟩) (by first|(simp[results,Tryz.results112,go_sem];done)|(simp[results,Tryz.results112,go_sem];omega)) rfl ⟨rfl,by first|exact below_allocs1 _ _|exact below_allocs2 _ _ _|exact below_allocs3 _ _ _ _⟩)
  | (rw [if_neg (by omega), if_neg (by omega), if_neg (by omega), if_pos (by omega)] at hE
     subst hE
     exact bodyPost_ret (v:=enV badE) (by first|(simp[results,Tryz.results112,go_sem,badE];done)|(simp[results,Tryz.results112,go_sem,badE];omega)) rfl ⟨rfl,by first|exact below_allocs1 _ _|exact below_allocs2 _ _ _|exact below_allocs3 _ _ _ _⟩)
  | (rw [if_neg (by omega), if_neg (by omega), if_neg (by omega), if_neg (by omega)] at hE
     subst hE
     exact bodyPost_ret (v:=enV ⟨2,s,0,b / 8,k,0,0⟩) (by first|(simp[results,Tryz.results112,go_sem];done)|(simp[results,Tryz.results112,go_sem];omega)) rfl ⟨rfl,by first|exact below_allocs1 _ _|exact below_allocs2 _ _ _|exact below_allocs3 _ _ _ _⟩))
def cellsE (e:En):List Value:=[.int .i64 e.k,.int .i64 e.s,.int .i64 e.lv,.int .i64 e.ok,.int .i64 e.oy,.int .i64 e.oh,.int .i64 e.ov]
def flatE (l:List En):List Value:=l.flatMap cellsE
theorem flatE_length (l:List En):(flatE l).length=l.length*7:=by
 induction l with
 |nil=>rfl
 |cons e l ih=>
  show (cellsE e++flatE l).length=_;rw[List.length_append,ih,List.length_cons];show 7+_=_;omega
theorem flatE_snoc (l:List En) (e:En):flatE (l++[e])=flatE l++cellsE e:=by
 unfold flatE;rw[List.flatMap_append];simp
def hdE (bs:List Int):En:=if bs.length<5 then badE else enE (bs.getD 0 0) (bs.getD 1 0) (bs.getD 2 0) (bs.getD 3 0) (bs.getD 4 0)
def dec:Nat→List Int→List En
 |0,_=>[]
 |n+1,bs=>if bs.length=0 then [] else hdE bs::dec n (bs.drop 5)
theorem dec_length2 (n:Nat):∀ bs:List Int,5*(dec n bs).length≤bs.length+4:=by
 induction n with
 |zero=>intro bs;show 5*0≤_;omega
 |succ n ih=>
  intro bs;unfold dec
  split
  · simp
  · have:=ih (bs.drop 5);rw[List.length_drop] at this;rw[List.length_cons];omega
def Told (bs:List Int) (k:Nat) (acc:List En):Prop:=acc.length=k∧k≤2000∧acc++dec (2000 - k) (bs.drop (5*k))=dec 2000 bs
theorem Told.start (bs:List Int):Told bs 0 []:=⟨rfl,by omega,by simp⟩
theorem Told.step {bs:List Int} {k:Nat} {acc:List En} (h:Told bs k acc) (hk:k<2000) (hr:5*k<bs.length):Told bs (k+1) (acc++[hdE (bs.drop (5*k))]):=by
 obtain⟨h1,h2,h3⟩:=h;refine⟨by simp[h1],by omega,?_⟩;rw[←h3,show 2000 - k=(2000 - (k+1))+1 from by omega]
 conv=>rhs;unfold dec
 rw[if_neg (by rw[List.length_drop];omega),List.drop_drop,show 5*k+5=5*(k+1) from by omega];simp
theorem Told.full {bs:List Int} {k:Nat} {acc:List En} (h:Told bs k acc) (hk:k=2000∨bs.length≤5*k):acc=dec 2000 bs:=by
 obtain⟨h1,h2,h3⟩:=h;rw[←h3]
 rcases hk with hk|hk
 · subst hk;show acc=acc++dec 0 _;unfold dec;simp
 · have:dec (2000 - k) (bs.drop (5*k))=[]:=by
    cases hn:2000 - k with
    |zero=>rfl
    |succ n=>unfold dec;rw[if_pos (by rw[List.length_drop];omega)]
   rw[this];simp
theorem getD_drop (bs:List Int) (k j:Nat):(bs.drop k).getD j 0=bs.getD (k+j) 0:=by
 simp[List.getD_eq_getElem?_getD]
def V (e:En):Prop:=
 0≤e.s∧e.s≤7∧
 ((e.k = 1 ∧ 1 ≤ e.lv ∧ e.lv ≤ 3 ∧ e.ok = 0 ∧ e.oy = 0 ∧ e.oh = 0 ∧ e.ov = 0) ∨
  (e.k = 2 ∧ e.lv = 0 ∧ 0 ≤ e.oy ∧ e.oy ≤ 255 ∧
    (((e.ok = 1 ∨ e.ok = 4) ∧ e.oh = 0 ∧ e.ov = 0) ∨ ((e.ok = 2 ∨ e.ok = 3) ∧ e.oh = 0 ∧ 0 ≤ e.ov ∧ e.ov ≤ 255) ∨
     (e.ok=5∧0≤e.oh∧e.oh≤255∧e.ov=0)∨((e.ok=6∨e.ok=7)∧e.oy=0∧e.oh=0∧e.ov=0)))∨
  (e.k=3∧e.lv=0∧e.ok=0∧e.oy=0∧e.oh=0∧e.ov=0)∨
  (e.k=4∧e.s=0∧e.lv=0∧e.ok=0∧e.oy=0∧e.oh=0∧e.ov=0))
def c0 (e:En):Int:=e.k - 1
def c2 (e:En):Int:=if e.k=2 then e.ok*8 else e.lv
def c4 (e:En):Int:=if e.k=2 then (if e.ok=5 then e.oh else e.ov) else 0
theorem V.bytes {e:En} (h:V e):0≤c0 e∧c0 e≤3∧0≤e.s∧e.s≤7∧0≤c2 e∧c2 e≤255∧0≤e.oy∧e.oy≤255∧0≤c4 e∧c4 e≤255∧0≤e.lv∧e.lv≤255∧0≤e.ok∧e.ok≤255:=by
 obtain⟨k,s,lv,ok,oy,oh,ov⟩:=e;unfold V at h;unfold c0 c2 c4;simp only at h ⊢
 by_cases hk:k=2
 · rw[if_pos hk,if_pos hk]
   by_cases ho:ok=5
   · rw[if_pos ho];omega
   · rw[if_neg ho];omega
 · rw[if_neg hk,if_neg hk];omega
theorem en_eq {a b:En} (h1:a.k=b.k) (h2:a.s=b.s) (h3:a.lv=b.lv) (h4:a.ok=b.ok) (h5:a.oy=b.oy) (h6:a.oh=b.oh) (h7:a.ov=b.ov):a=b:=by
 cases a;cases b;simp_all
theorem V.again {e:En} (h:V e):enE (c0 e) e.s (c2 e) e.oy (c4 e)=e:=by
 obtain⟨k,s,lv,ok,oy,oh,ov⟩:=e;unfold V at h;have h2:c2 ⟨k,s,lv,ok,oy,oh,ov⟩=if k=2 then ok*8 else lv:=rfl
 have h4:c4 ⟨k,s,lv,ok,oy,oh,ov⟩=if k=2 then (if ok=5 then oh else ov) else 0:=rfl
 have h0:c0 ⟨k,s,lv,ok,oy,oh,ov⟩=k - 1:=rfl;rw[h0];simp only at h ⊢;generalize c2 ⟨k,s,lv,ok,oy,oh,ov⟩=b2 at*;generalize c4 ⟨k,s,lv,ok,oy,oh,ov⟩=b4 at*
 by_cases hk:k=2
 · rw[if_pos hk] at h2 h4
   subst h2;have h4':(ok=5∧b4=oh)∨(ok≠5∧b4=ov):=by
    by_cases ho:ok=5
    · rw[if_pos ho] at h4;exact .inl ⟨ho,h4⟩
    · rw[if_neg ho] at h4;exact .inr ⟨ho,h4⟩
   clear h4;unfold enE isE badE
   repeat' split
   all_goals first|(exfalso;omega)|(apply en_eq<;>simp only[]<;>omega)
 · rw[if_neg hk] at h2 h4
   subst h2 h4;unfold enE isE badE
   repeat' split
   all_goals first|(exfalso;omega)|(apply en_eq<;>simp only[]<;>omega)
theorem V.mk {k s lv ok oy oh ov : Int} (h : 0 ≤ s ∧ s ≤ 7 ∧
  ((k = 1 ∧ 1 ≤ lv ∧ lv ≤ 3 ∧ ok = 0 ∧ oy = 0 ∧ oh = 0 ∧ ov = 0) ∨
   (k = 2 ∧ lv = 0 ∧ 0 ≤ oy ∧ oy ≤ 255 ∧
     (((ok = 1 ∨ ok = 4) ∧ oh = 0 ∧ ov = 0) ∨ ((ok = 2 ∨ ok = 3) ∧ oh = 0 ∧ 0 ≤ ov ∧ ov ≤ 255) ∨
      (ok=5∧0≤oh∧oh≤255∧ov=0)∨((ok=6∨ok=7)∧oy=0∧oh=0∧ov=0)))∨
   (k=3∧lv=0∧ok=0∧oy=0∧oh=0∧ov=0)∨
   (k=4∧s=0∧lv=0∧ok=0∧oy=0∧oh=0∧ov=0))):V ⟨k,s,lv,ok,oy,oh,ov⟩:=h
theorem V.told {b0 b1 b2 b3 b4:Int} (p1:0≤b1) (p2:0≤b2) (q2:b2<256) (p3:0≤b3) (q3:b3<256) (p4:0≤b4) (q4:b4<256) (h:(enE b0 b1 b2 b3 b4).k≠5):V (enE b0 b1 b2 b3 b4):=by
 unfold enE isE badE at h ⊢
 split at h
 · exact absurd rfl h
 · rw[if_neg (by omega)]
   split at h
   · rw[if_pos (by assumption)]
     exact V.mk ⟨p1,by omega,.inl ⟨rfl,by omega,by omega,rfl,rfl,rfl,rfl⟩⟩
   · rw[if_neg (by assumption)]
     split at h
     · rw[if_pos (by assumption)]
       split at h
       · exact absurd rfl h
       · rw[if_neg (by assumption)]
         split at h
         · rw[if_pos (by assumption)]
           exact V.mk ⟨p1,by omega,.inr (.inl ⟨rfl,rfl,p3,by omega,.inr (.inr (.inl ⟨rfl,p4,by omega,rfl⟩))⟩)⟩
         · rw[if_neg (by assumption)]
           split at h
           · rw[if_pos (by assumption)]
             exact V.mk ⟨p1,by omega,.inr (.inl ⟨rfl,rfl,p3,by omega,.inr (.inl ⟨by assumption,rfl,p4,by omega⟩)⟩)⟩
           · rw[if_neg (by assumption)]
             split at h
             · exact absurd rfl h
             · rw[if_neg (by assumption)]
               by_cases h67:6≤b2 / 8
               · exact V.mk ⟨p1,by omega,.inr (.inl ⟨rfl,rfl,p3,by omega,.inr (.inr (.inr ⟨by omega,by omega,rfl,rfl⟩))⟩)⟩
               · exact V.mk ⟨p1,by omega,.inr (.inl ⟨rfl,rfl,p3,by omega,.inl ⟨by omega,rfl,rfl⟩⟩)⟩
     · rw[if_neg (by assumption)]
       split at h
       · rw[if_pos (by assumption)]
         by_cases h02:b0=2
         · exact V.mk ⟨p1,by omega,.inr (.inr (.inl ⟨by omega,rfl,rfl,rfl,rfl,rfl⟩))⟩
         · exact V.mk ⟨p1,by omega,.inr (.inr (.inr ⟨by omega,by omega,rfl,rfl,rfl,rfl,rfl⟩))⟩
       · exact absurd rfl h
def r2 (e:En):Int:=if e.k=1 then e.lv % 256 else if e.k=2 then e.ok*8 % 256 else 0
def r3 (e:En):Int:=if e.k=2 then e.oy % 256 else 0
def r4 (e:En):Int:=if e.k=2 then (if e.ok=5 then e.oh % 256 else e.ov % 256) else 0
theorem V.ref {e:En} (h:V e):(e.k - 1) % 256=c0 e∧e.s % 256=e.s∧r2 e=c2 e∧r3 e=e.oy∧r4 e=c4 e:=by
 obtain⟨k,s,lv,ok,oy,oh,ov⟩:=e;unfold V at h;unfold c0 c2 c4 r2 r3 r4;simp only at h ⊢
 by_cases hk:k=2
 · rw[if_neg (show ¬ k=1 by omega),if_pos hk,if_pos hk,if_pos hk,if_pos hk,if_pos hk]
   by_cases ho:ok=5
   · rw[if_pos ho,if_pos ho];omega
   · rw[if_neg ho,if_neg ho];omega
 · rw[if_neg hk,if_neg hk,if_neg hk,if_neg hk]
   by_cases h1:k=1
   · rw[if_pos h1];omega
   · rw[if_neg h1,if_neg hk];omega
theorem V.of_ref {e:En} (h5:e.k≠5) (h:enE ((e.k - 1) % 256) (e.s % 256) (r2 e) (r3 e) (r4 e)=e):V e:=by
 have b2:0≤r2 e∧r2 e<256:=by unfold r2;split<;>(try split)<;>omega
 have b3:0≤r3 e∧r3 e<256:=by unfold r3;split<;>omega
 have b4:0≤r4 e∧r4 e<256:=by unfold r4;split<;>(try split)<;>omega
 have:=V.told (b0:=(e.k - 1) % 256) (b1:=e.s % 256) (b2:=r2 e) (b3:=r3 e) (b4:=r4 e) (by omega) b2.1 b2.2 b3.1 b3.2 b4.1 b4.2 (by rw[h];exact h5);rw[h] at this;exact this
theorem V.of_prog {e:En} (h5:e.k≠5) (hs:0≤e.s) (h2:0≤c2 e∧c2 e≤255) (h3:0≤e.oy∧e.oy≤255) (h4:0≤c4 e∧c4 e≤255) (h:enE (c0 e) e.s (c2 e) e.oy (c4 e)=e):V e:=by
 have:=V.told (b0:=c0 e) (b1:=e.s) (b2:=c2 e) (b3:=e.oy) (b4:=c4 e) hs h2.1 (by omega) h3.1 (by omega) h4.1 (by omega) (by rw[h];exact h5);rw[h] at this;exact this
end Go.Proofs.YthicolbbmjfkfaaGreat.Plan
namespace Go.Proofs.YthicolbbmjfkfaaGreat.Em
open Go.ChangeShapes Go.WideShapes Go.ChangeAt Go.RowKit En
set_option linter.unusedVariables false
set_option linter.unusedSimpArgs false
set_option maxRecDepth 100000
set_option maxHeartbeats 1600000
variable {A:Book} {σ:St} {w:World}
theorem infoLimbo:(Tryz.prog.info? 203).map (fun i=>(i.zero,i.size,i.bytes))=some (some (.agg #[zu 0,zi 0]),2,16):=by kernel_rfl
theorem cutPs_len (l:List (Nat×Nat)):(cutPs l).length=2*l.length:=by
 unfold cutPs
 induction l with
 |nil=>rfl
 |cons a l ih=>rw[List.flatMap_cons,List.length_append,ih];simp;omega
theorem cutPs_on (l:List (Nat×Nat)) (x:Nat×Nat):cutPs (l++[x])=cutPs l++[u64 x.1,i64 x.2]:=by simp[cutPs]
def CutOn (A:Book) (σ:St) (w:World) (x:Nat×Nat) (v:Value) (w':World):Prop:=
 ∃ L hc g cs av cap,v=.slice (some av) (σ.cut.length+1) cap∧Rep {A with L:=L,hcut:=hc,gcut:=g,cutCs:=cs} σ w'∧Grow A.L w L w'∧CutOk {A with L:=L,hcut:=hc,gcut:=g,cutCs:=cs,vcut:=v} (σ.cut++[x])
theorem cut_new {A:Book} {σ:St} {w w':World} {v':Value} {x:Nat×Nat} (hR:Rep A σ w) (h2:w'.ownsRow w.heap.size 203 2 v' (σ.cut.length+1) (cutPs (σ.cut++[x]))) (h3:w.grownBy w' none):CutOn A σ w x v' w':=by
 rcases h2.2 with ⟨_,h0⟩|⟨g,cap,cur,rfl,hbg,hgg,hnc,hcm,hcs,htk⟩
 · omega
 have hb:Below w.heap.size w w':=⟨h3.os,h3.tape,h3.output,h3.size,fun k hk=>h3.block k hk (by simp)⟩
 have hlt:g<w'.heap.size:=lt_of hgg;have hR':=hR.below hb;have hg:Grow A.L w (lab1 A.L g .cut) w':=(Grow.below hb).lab1 hbg _;have hLg:A.L g=none:=hR.mem.fresh g hbg;refine⟨lab1 A.L g .cut,true,g,cur.toList,⟨g,0,none⟩,cap,rfl,⟨?_,hR.ev.grow hg,hR.sl,hR.nw,hR.nt,hR.nv,hR.n8,hR.nc⟩,hg,.inr ⟨rfl,0,cap,by simp,?_,?_,?_,?_⟩⟩
 · refine (hR'.mem.adopt .cut hLg (.obj g cur.toList 203) ⟨lab1_same _ _ _,by simpa using hgg⟩ hlt).of_eq fun q=>?_
   cases q<;>rfl
 · simpa using hnc
 · simpa using hcm
 · show 2*(0+cap)≤cur.toList.length
   simp[hcs];omega
 · show (cur.toList.drop (2*0)).take (2*(σ.cut++[x]).length)=_
   rw[←htk];simp;congr 1;omega
theorem cut_cells (hR:Rep A σ w) {k cap:Nat} (hh:A.hcut=true) (hk:2*(k+cap)≤A.cutCs.length) (hn:σ.cut.length≤cap) (ht:(A.cutCs.drop (2*k)).take (2*σ.cut.length)=cutPs σ.cut):
 A.L A.gcut=some .cut∧w.heap[A.gcut]? =some (.cells A.cutCs.toArray 203)∧(∀ j u,(cutPs σ.cut)[j]? =some u→w.cell? ⟨A.gcut,2*k+j,none⟩=some u):=by
 have he:memOf A σ .cut=.obj A.gcut A.cutCs 203:=by simp only[memOf,hh,cond_true]
 have h:=hR.mem.all .cut;rw[he] at h;refine⟨h.1,h.2,fun j u hu=>?_⟩;refine hR.mem.cell he (2*k+j) ?_;rw[←ht,List.getElem?_take] at hu
 split at hu
 · rwa [List.getElem?_drop] at hu
 · cases hu
theorem run_cut (hR:Rep A σ w) (hC:CutOk A σ.cut) (hlen:σ.cut.length<1000000) (x:Nat×Nat) (ty:TypeId) (ad:Addr) (h0:w.cell? (ad.add 0)=some (u64 x.1)) (h1:w.cell? (ad.add 1)=some (i64 x.2)):
 ∃ v' w',(Builtin.append_ #[107,107] ty #[A.vcut,.slice (some ad) 1 1]).run Tryz.prog w=.ok v' w'∧CutOn A σ w x v' w':=by
 obtain⟨ii,hii,hz0,hz1,hz2⟩:=info_parts infoLimbo;have hnews:∀ j u,[u64 x.1,i64 x.2][j]? =some u→w.cell? (ad.add j)=some u:=by
  intro j u hu
  match j,hu with
  |0,hu=>obtain rfl:=Option.some.inj hu;exact h0
  |1,hu=>obtain rfl:=Option.some.inj hu;exact h1
  |j+2,hu=>simp at hu
 have hone:∀ u∈[u64 x.1,i64 x.2],u.oneCell'=true:=by intro u hu;simp at hu;rcases hu with rfl|rfl<;>rfl
 rcases hC with ⟨-,hv,hl⟩|⟨hh,k,cap,hv,hn,hm,hk,ht⟩
 · obtain⟨v',w',hr,h2,h3,_⟩:=run_append_own (P:=Tryz.prog) w w.heap.size 107 ty 203 ii _ 2 16 Tryz.underlying107 hii hz0 hz1 hz2 rfl (by decide) (.slice none 0 0) 0 [] (World.ownsRow_nil _ _ _ _) ad 1 1 [u64 x.1,i64 x.2] rfl hnews hone (by unfold maxLen;omega) (by omega) (Nat.le_refl _)
   rw[hv];refine⟨v',w',hr,cut_new hR ?_ h3⟩;rw[hl];exact h2
 · obtain⟨e1,e2,e3⟩:=cut_cells hR hh hk hn ht
   have hadd:∀ j,(⟨A.gcut,2*k,none⟩:Addr).add j=⟨A.gcut,2*k+j,none⟩:=fun j=>Addr.add_lit _ _ _
   rw[hv]
   by_cases hroom:σ.cut.length+1≤cap
   · have hr:=run_append_room_cells (P:=Tryz.prog) w 107 ty 203 ii Tryz.underlying107 hii A.gcut (2*k) σ.cut.length cap ad 1 1 [u64 x.1,i64 x.2] (by rw[hz1];rfl) hnews hone hroom ?_ ?_
     · rw[hz1] at hr
       refine⟨_,_,hr,A.L,A.hcut,A.gcut,(A.cutCs.set (2*k+σ.cut.length*2) (u64 x.1)).set (2*k+σ.cut.length*2+1) (i64 x.2),⟨A.gcut,2*k,none⟩,cap,rfl,?_,?_,.inr ⟨hh,k,cap,?_,?_,hm,?_,?_⟩⟩
       · have he:memOf A σ .cut=.obj A.gcut A.cutCs 203:=by simp only[memOf,hh,cond_true]
         have g1:=hR.mem.grow_set he (2*k+σ.cut.length*2) (u64 x.1);have m1:=hR.mem.put .cut he (2*k+σ.cut.length*2) (u64 x.1);have g2:=m1.grow_set (updE_same _ _ _) (2*k+σ.cut.length*2+1) (i64 x.2);have m2:=m1.put .cut (updE_same _ _ _) (2*k+σ.cut.length*2+1) (i64 x.2);refine⟨m2.of_eq fun q=>?_,hR.ev.grow (g1.trans g2),hR.sl,hR.nw,hR.nt,hR.nv,hR.n8,hR.nc⟩
         cases q<;>first|rfl|(simp only[memOf,hh,cond_true];rfl)
       · have he:memOf A σ .cut=.obj A.gcut A.cutCs 203:=by simp only[memOf,hh,cond_true]
         have g1:=hR.mem.grow_set he (2*k+σ.cut.length*2) (u64 x.1);have m1:=hR.mem.put .cut he (2*k+σ.cut.length*2) (u64 x.1);exact g1.trans (m1.grow_set (updE_same _ _ _) (2*k+σ.cut.length*2+1) (i64 x.2))
       · simp
       · simpa using hroom
       · show _≤((A.cutCs.set _ _).set _ _).length
         simpa using hk
       · show (((A.cutCs.set _ _).set _ _).drop (2*k)).take _=_
         rw[cutPs_on,←ht];apply List.ext_getElem?
         intro j;simp only[List.getElem?_take,List.getElem?_drop,List.getElem?_append,List.length_take,List.length_drop,List.getElem?_set,List.length_set,List.length_append,List.length_cons,List.length_nil];have hmin:min (2*σ.cut.length) (A.cutCs.length - 2*k)=2*σ.cut.length:=by omega
         rw[hmin]
         by_cases hj:j<2*σ.cut.length
         · rw[if_pos (by omega),if_neg (by omega),if_neg (by omega),if_pos hj,if_pos hj]
         · rw[if_neg hj]
           by_cases hj0:j=2*σ.cut.length
           · subst hj0
             rw[if_pos (by omega),if_neg (by omega),if_pos (by omega),if_pos (by omega),Nat.sub_self];rfl
           · by_cases hj1:j=2*σ.cut.length+1
             · subst hj1
               rw[if_pos (by omega),if_pos (by omega),if_pos (by omega),show 2*σ.cut.length+1 - 2*σ.cut.length=1 by omega];rfl
             · rw[if_neg (by omega),List.getElem?_eq_none (by simp;omega)]
     · intro j hj
       rw[hz1];have hlt:2*k+σ.cut.length*2+j<A.cutCs.length:=by simp at hj;omega
       rw[cell_of_row w A.gcut _ _ _ _ e2];simp[hlt]
     · intro j hj
       have he:memOf A σ .cut=.obj A.gcut A.cutCs 203:=by simp only[memOf,hh,cond_true]
       exact hR.mem.frozen he _
   · obtain⟨v',w',hr,h2,h3⟩:=run_append_arg_grows (P:=Tryz.prog) w 107 ty 203 ii _ 2 16 Tryz.underlying107 hii hz0 hz1 hz2 rfl (by decide) ⟨A.gcut,2*k,none⟩ σ.cut.length cap (cutPs σ.cut) (by rw[cutPs_len];omega) (fun j u hu=>by rw[hadd];exact e3 j u hu) ad 1 1 [u64 x.1,i64 x.2] rfl hnews (by omega) (by unfold maxLen;omega) (by omega)
     exact⟨v',w',hr,cut_new hR (by rw[cutPs_on];exact h2) h3⟩
theorem wp_cutN {A:Book} {σ:St} {o:Oper} {a:Act} {K:Act→World→Prop} {Q:Exit→Act→World→Prop} (w W:World) (s y:Operand)
 (ho:o.op=.call {callee:=.builtin .append,args:=#[s,y],argTypes:=#[107,107]})
 (hR:Rep A σ w) (hC:CutOk A σ.cut) (hlen:σ.cut.length<1000000) (v0:Value) (hv0:v0=A.vcut) (hs:a.eval s=v0) (x:Nat×Nat) (hW:W=w.alloc (.cells #[zu (x.1:Int),zi (x.2:Int)] 203)) (hx:a.eval y=.slice (some ⟨w.heap.size,0,none⟩) 1 1)
 (h:∀ av n' cap' w',CutOn A σ w x (.slice av n' cap') w'→K (a.put o.dst (.slice av n' cap')) w'):o.wp Tryz.prog a W K Q:=by
 subst hW;have hR':=hR.alloc (.cells #[zu (x.1:Int),zi (x.2:Int)] 203);obtain⟨v',w',hr,L,hc,g,cs,av,cap,rfl,r',g',c'⟩:=run_cut hR' hC hlen x o.type ⟨w.heap.size,0,none⟩ (Ow.new_row w [zu (x.1:Int),zi (x.2:Int)] _ _ rfl 0 _ rfl) (Ow.new_row w [zu (x.1:Int),zi (x.2:Int)] _ _ rfl 1 _ rfl);unfold Oper.wp execOp;simp only[ho,resolve,invoke,builtin,Sem.run_bind,Sem.run_pure,Result.andThen_ok,List.map_toArray,List.map_cons,List.map_nil,hs,hx,hv0,hr];exact h _ _ _ w' ⟨L,hc,g,cs,av,cap,rfl,r',(Grow.alloc _ _ _).trans g',c'⟩
theorem CutOk.tail {A:Book} {x:Nat×Nat} {l:List (Nat×Nat)} (h:CutOk A (x::l)):∃ k cap,A.hcut=true∧A.vcut=.slice (some ⟨A.gcut,2*k,none⟩) (l.length+1) cap∧l.length+1≤cap∧cap≤maxLen∧2*(k+cap)≤A.cutCs.length
 ∧CutOk {A with vcut:=.slice (if cap=1 then some ⟨A.gcut,2*k,none⟩ else some ⟨A.gcut,2*k+2,none⟩) l.length (cap - 1)} l∧A.cutCs[2*k]? =some (u64 x.1)∧A.cutCs[2*k+1]? =some (i64 x.2):=by
 rcases h with ⟨-,-,hl⟩|⟨hh,k,cap,hv,hn,hm,hk,ht⟩
 · cases hl
 have hc0:A.cutCs[2*k]? =some (u64 x.1)∧A.cutCs[2*k+1]? =some (i64 x.2):=by
  have e:∀ j,j<2→A.cutCs[2*k+j]? =(cutPs (x::l))[j]? :=by
   intro j hj;rw[←ht,List.getElem?_take,if_pos (by simp;omega),List.getElem?_drop]
  exact⟨e 0 (by omega),e 1 (by omega)⟩
 have hn':l.length+1≤cap:=hn;refine⟨k,cap,hh,hv,hn,by omega,hk,?_,hc0.1,hc0.2⟩
 by_cases h1:cap=1
 · have hl:l=[]:=List.eq_nil_of_length_eq_zero (by omega)
   subst hl;subst h1;exact .inr ⟨hh,k,0,rfl,Nat.zero_le _,by omega,by show 2*(k+0)≤A.cutCs.length;omega,by simp[cutPs]⟩
 · refine .inr ⟨hh,k+1,cap - 1,by simp[h1],by omega,by omega,by show 2*(k+1+(cap - 1))≤A.cutCs.length;omega,?_⟩
   show (A.cutCs.drop (2*(k+1))).take (2*l.length)=cutPs l;have e:cutPs l=(cutPs (x::l)).drop 2:=rfl;rw[e,←ht,List.drop_take,List.drop_drop];simp
   congr 1
end Go.Proofs.YthicolbbmjfkfaaGreat.Em
