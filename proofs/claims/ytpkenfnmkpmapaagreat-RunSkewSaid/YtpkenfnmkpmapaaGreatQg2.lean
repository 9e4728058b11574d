import Derived.Test.YtpkenfnmkpmapaaGreatQg0
import Derived.Laws.BitsAllLaws
import Derived.Laws.Bits64
import Derived.Laws.BitsLemmas
import Derived.Test.YtpkenfnmkpmapaaGreatProg
import Derived.WalkKit
import Derived.ProofKit
import Derived.OpenShut
import Derived.WalkLawsBesides
import Derived.WalkSpells
import Derived.Outline
namespace Go.Proofs.YtpkenfnmkpmapaaGreat.Bt
open Go
set_option linter.unusedVariables false
set_option linter.unusedSimpArgs false
set_option maxRecDepth 100000
set_option maxHeartbeats 1600000
theorem emod_toNat (x:Int) (i:Nat) (hi:i≤64):(x % (2 ^ 64:Nat)).toNat % 2 ^ i=(x % (2 ^ i:Nat)).toNat:=by
 have hp:(0:Int)<((2 ^ i:Nat):Int):=by exact_mod_cast Nat.two_pow_pos i
 have hd:((2 ^ i:Nat):Int)∣((2 ^ 64:Nat):Int):=by exact_mod_cast Nat.pow_dvd_pow 2 hi
 have h1:(x % ((2 ^ 64:Nat):Int)) % ((2 ^ i:Nat):Int)=x % ((2 ^ i:Nat):Int):=Int.emod_emod_of_dvd x hd;have h0:0≤x % ((2 ^ 64:Nat):Int):=Int.emod_nonneg _ (by decide);rw[←h1];generalize x % ((2 ^ 64:Nat):Int)=y at h0 ⊢;obtain⟨n,rfl⟩:=Int.eq_ofNat_of_zero_le h0;rw[←Int.natCast_emod,Int.toNat_natCast,Int.toNat_natCast]
theorem and_mask_i64 (x:Int) (i:Nat) (hi:i≤62):bits .and .i64 x (((2 ^ i - 1:Nat)):Int)=x % ((2 ^ i:Nat):Int):=by
 have hlt:2 ^ i - 1<2 ^ 64:=Nat.lt_of_lt_of_le (Nat.sub_lt (Nat.two_pow_pos i) (by decide)) (Nat.pow_le_pow_right (by decide) (by omega));have hw:∀ n:Nat,n<2 ^ 62→IntKind.i64.wrap (n:Int)=n:=by
  intro n hn;rw[IntKind.wrap_i64];omega
 have hm:(x % ((2 ^ i:Nat):Int)).toNat<2 ^ i:=by
  have hp:(0:Int)<((2 ^ i:Nat):Int):=by exact_mod_cast Nat.two_pow_pos i
  have:=Int.emod_lt_of_pos x hp;have:=Int.emod_nonneg x (Int.ne_of_gt hp);omega
 show IntKind.i64.wrap (((BitVec.ofInt 64 x &&&BitVec.ofInt 64 ((2 ^ i - 1:Nat):Int)).toNat:Nat):Int)=_;rw[BitVec.ofInt_natCast,BitVec.toNat_and,BitVec.toNat_ofNat,BitVec.toNat_ofInt,Nat.mod_eq_of_lt hlt];rw[Nat.and_two_pow_sub_one_eq_mod,emod_toNat x i (by omega)];rw[hw _ (Nat.lt_of_lt_of_le hm (Nat.pow_le_pow_right (by decide) hi))];have hp:(0:Int)<((2 ^ i:Nat):Int):=by exact_mod_cast Nat.two_pow_pos i
 have:=Int.emod_nonneg x (Int.ne_of_gt hp);omega
theorem i64_and63 (x:Int):bits .and .i64 x 63=x % 64:=and_mask_i64 x 6 (by omega)
theorem i64_and255 (x:Int):bits .and .i64 x 255=x % 256:=and_mask_i64 x 8 (by omega)
theorem and_mask_u64 (x:Int) (i:Nat) (hi:i≤63):bits .and .u64 x (((2 ^ i - 1:Nat)):Int)=x % ((2 ^ i:Nat):Int):=by
 have hlt:2 ^ i - 1<2 ^ 64:=Nat.lt_of_lt_of_le (Nat.sub_lt (Nat.two_pow_pos i) (by decide)) (Nat.pow_le_pow_right (by decide) (by omega));have hw:∀ n:Nat,n<2 ^ 63→IntKind.u64.wrap (n:Int)=n:=by
  intro n hn;rw[IntKind.wrap_u64];omega
 have hp:(0:Int)<((2 ^ i:Nat):Int):=by exact_mod_cast Nat.two_pow_pos i
 have h0:=Int.emod_nonneg x (Int.ne_of_gt hp);have hm:(x % ((2 ^ i:Nat):Int)).toNat<2 ^ i:=by
  have:=Int.emod_lt_of_pos x hp;omega
 show IntKind.u64.wrap (((BitVec.ofInt 64 x &&&BitVec.ofInt 64 ((2 ^ i - 1:Nat):Int)).toNat:Nat):Int)=_;rw[BitVec.ofInt_natCast,BitVec.toNat_and,BitVec.toNat_ofNat,BitVec.toNat_ofInt,Nat.mod_eq_of_lt hlt];rw[Nat.and_two_pow_sub_one_eq_mod,emod_toNat x i (by omega)];rw[hw _ (Nat.lt_of_lt_of_le hm (Nat.pow_le_pow_right (by decide) hi))];omega
theorem u64_and7 (x:Int):bits .and .u64 x 7=x % 8:=and_mask_u64 x 3 (by omega)
theorem u64_and65535 (x:Int):bits .and .u64 x 65535=x % 65536:=and_mask_u64 x 16 (by omega)
theorem u64_and131071 (x:Int):bits .and .u64 x 131071=x % 131072:=and_mask_u64 x 17 (by omega)
theorem nat_bit40 (n:Nat):n &&&1099511627776=n / 1099511627776 % 2*1099511627776:=nat_bit 40 n
theorem u64_andBit40 (x:Int) (h0:0≤x) (h1:x<18446744073709551616):bits .and .u64 x 1099511627776=x / 1099511627776 % 2*1099511627776:=by
 rw[u64_and x 1099511627776 h0 h1 (by decide) (by decide)];show ((x.toNat &&&1099511627776:Nat):Int)=_;rw[nat_bit40];omega
theorem u64_link (t s:Int) (h0:0≤t) (h1:t≤65535) (h2:0≤s) (h3:s≤65536):bits .or .u64 (t*131072) s=t*131072+s:=by
 obtain⟨a,rfl⟩:=Int.eq_ofNat_of_zero_le h0;obtain⟨b,rfl⟩:=Int.eq_ofNat_of_zero_le h2;rw[u64_or _ _ (by omega) (by omega) (by omega) (by omega)];rw[show ((a:Int)*131072).toNat=2 ^ 17*a from by omega,show ((b:Int)).toNat=b from by omega];rw[←Nat.two_pow_add_eq_or_of_lt (i:=17) (b:=b) (by omega) a];omega
theorem u64_or3 (t s:Int) (h0:0≤t) (h1:t<2305843009213693952) (h2:0≤s) (h3:s<8):bits .or .u64 (t*8) s=t*8+s:=by
 obtain⟨a,rfl⟩:=Int.eq_ofNat_of_zero_le h0;obtain⟨b,rfl⟩:=Int.eq_ofNat_of_zero_le h2;rw[u64_or _ _ (by omega) (by omega) (by omega) (by omega)];rw[show ((a:Int)*8).toNat=2 ^ 3*a from by omega,show ((b:Int)).toNat=b from by omega];rw[←Nat.two_pow_add_eq_or_of_lt (i:=3) (b:=b) (by omega) a];omega
theorem u64_or16 (t s:Int) (h0:0≤t) (h1:t<281474976710656) (h2:0≤s) (h3:s<65536):bits .or .u64 (t*65536) s=t*65536+s:=by
 obtain⟨a,rfl⟩:=Int.eq_ofNat_of_zero_le h0;obtain⟨b,rfl⟩:=Int.eq_ofNat_of_zero_le h2;rw[u64_or _ _ (by omega) (by omega) (by omega) (by omega)];rw[show ((a:Int)*65536).toNat=2 ^ 16*a from by omega,show ((b:Int)).toNat=b from by omega];rw[←Nat.two_pow_add_eq_or_of_lt (i:=16) (b:=b) (by omega) a];omega
end Go.Proofs.YtpkenfnmkpmapaaGreat.Bt
namespace Go.Proofs.YtpkenfnmkpmapaaGreat.Word
open Go.ChangeShapes Go.WideShapes Go.ChangeAt Go.RowKit
set_option linter.unusedVariables false
set_option linter.unusedSimpArgs false
set_option maxRecDepth 100000
set_option maxHeartbeats 1600000
theorem forever_any (w:World):Calls Tryz.prog 119 #[] w fun e w'=>e=.returned (.int .u64 2305843009213693952)∧w=w':=by
 go_enter Tryz.func119,Tryz.ntmps119;go_wp2;go_ret;exact⟨rfl,rfl⟩
theorem time_yes (t:Int) (h0:0≤t) (h1:t≤1099511627776) (w:World):Calls Tryz.prog 175 #[.int .u64 t] w fun e w'=>e=.returned (.tuple #[.int .u64 t,.bool true])∧w=w':=by
 go_enter Tryz.func175,Tryz.ntmps175;go_wp2
 go_ret2
 exact⟨rfl,rfl⟩
theorem txn_yes (t:Int) (h0:1≤t) (h1:t≤65535) (w:World):Calls Tryz.prog 139 #[.int .i64 t] w fun e w'=>e=.returned (.tuple #[.int .u64 (4611686018427387904+t),.bool true])∧w=w':=by
 go_enter Tryz.func139,Tryz.ntmps139;go_wp2
 go_ret2
 exact⟨rfl,rfl⟩
def rdK (t:Int):Int:=if t≤1099511627776 then 1 else if t=2305843009213693952 then 3 else if 4611686018427387904<t∧t≤4611686018427453439 then 2 else 0
def rdN (t:Int):Int:=if t≤1099511627776 then t else if 4611686018427387904<t∧t≤4611686018427453439 then t - 4611686018427387904 else 0
theorem read_any (t:Int) (h0:0≤t) (hu:t<18446744073709551616) (w:World):Calls Tryz.prog 95 #[.int .u64 t] w fun e w'=>e=.returned (.agg #[.int .i64 (rdK t),.int .u64 (rdN t)])∧Below w.heap.size w w':=by
 unfold rdK rdN
 by_cases h1:t≤1099511627776
 · rw[if_pos h1,if_pos h1]
   go_enter Tryz.func95,Tryz.ntmps95;go_wp2;exact bodyPost_ret (v:=.agg #[.int .i64 1,.int .u64 t]) (by simp[results,Tryz.results95,go_sem]) rfl ⟨rfl,(Below.refl _ _).alloc (Nat.le_refl _) _⟩
 · rw[if_neg h1,if_neg h1]
   by_cases h2:t=2305843009213693952
   · subst h2
     go_enter Tryz.func95,Tryz.ntmps95;go_wp2;exact bodyPost_ret (v:=.agg #[.int .i64 3,.int .u64 0]) (by simp[results,Tryz.results95,go_sem]) rfl ⟨rfl,(Below.refl _ _).alloc (Nat.le_refl _) _⟩
   · rw[if_neg h2]
     have e2:(t==2305843009213693952)=false:=beq_eq_false_iff_ne.2 h2
     by_cases h3:4611686018427387904<t∧t≤4611686018427453439
     · rw[if_pos h3,if_pos h3]
       obtain⟨h3,h4⟩:=h3;go_enter Tryz.func95,Tryz.ntmps95;go_wp2;exact bodyPost_ret (v:=.agg #[.int .i64 2,.int .u64 (t - 4611686018427387904)]) (by simp[results,Tryz.results95,go_sem]) rfl ⟨rfl,(Below.refl _ _).alloc (Nat.le_refl _) _⟩
     · rw[if_neg h3,if_neg h3]
       by_cases h4:4611686018427387904<t
       · have h5:4611686018427453439<t:=by omega
         clear h3;go_enter Tryz.func95,Tryz.ntmps95;go_wp2;exact bodyPost_ret (v:=.agg #[.int .i64 0,.int .u64 0]) (by simp[results,Tryz.results95,go_sem]) rfl ⟨rfl,(Below.refl _ _).alloc (Nat.le_refl _) _⟩
       · clear h3
         go_enter Tryz.func95,Tryz.ntmps95;go_wp2;exact bodyPost_ret (v:=.agg #[.int .i64 0,.int .u64 0]) (by simp[results,Tryz.results95,go_sem]) rfl ⟨rfl,(Below.refl _ _).alloc (Nat.le_refl _) _⟩
theorem link_yes (s t:Int) (h0:0≤s) (h1:s≤65535) (h2:0≤t) (h3:t≤65535) (w:World):Calls Tryz.prog 168 #[.int .i64 s,.int .i64 t] w fun e w'=>e=.returned (.tuple #[.int .u64 (t*131072+(s+1)),.bool true])∧w=w':=by
 have e1:=Bt.u64_link t (s+1) h2 h3 (by omega) (by omega);go_enter Tryz.func168,Tryz.ntmps168;go_wp2
 go_ret2
 exact⟨rfl,rfl⟩
theorem w64_id (x:Int) (h0:-9223372036854775808≤x) (h1:x<9223372036854775808):wrap64 x=x:=by
 unfold wrap64;omega
theorem ret_iib {a b a' b':Int} {c c':Bool} (h1:a=a') (h2:b=b') (h3:c=c'):Ending.returned (.tuple #[.int .i64 a,.int .i64 b,.bool c])=.returned (.tuple #[.int .i64 a',.int .i64 b',.bool c']):=by
 rw[h1,h2,h3]
theorem unlink_any (t:Int) (h0:0≤t) (hu:t<18446744073709551616) (w:World):Calls Tryz.prog 94 #[.int .u64 t] w fun e w'=>e=.returned (.tuple #[.int .i64 (t % 131072 - 1),.int .i64 (t / 131072 % 65536),.bool (t / 1099511627776 % 2==1)])∧w=w':=by
 go_enter Tryz.func94,Tryz.ntmps94;go_wp2
 go_ret3
 refine⟨ret_iib ?_ ?_ ?_,rfl⟩
 · rw[Bt.u64_and131071,w64_id (t % 131072) (by omega) (by omega),w64_id _ (by omega) (by omega)]
 · rw[Bt.u64_and65535,w64_id _ (by omega) (by omega)]
 · rw[Bt.u64_andBit40 t h0 hu,Bool.eq_iff_iff]
   simp only[bne_iff_ne,beq_iff_eq];omega
end Go.Proofs.YtpkenfnmkpmapaaGreat.Word
