import Derived.Test.YthicolbbmjfkfaaGreatQh0
import Derived.Laws.BitsAllLaws
import Derived.Laws.Bits64
import Derived.Laws.BitsLemmas
import Derived.Test.YthicolbbmjfkfaaGreatProg
import Derived.WalkKit
import Derived.ProofKit
import Derived.OpenShut
import Derived.WalkLawsBesides
import Derived.WalkSpells
import Derived.Outline
set_option linter.unusedVariables false
set_option linter.unusedSimpArgs false
set_option maxRecDepth 100000
set_option maxHeartbeats 1600000
namespace Go.Proofs.YthicolbbmjfkfaaGreat.Bt
open Go
theorem tN (x:Int) (i:Nat) (hi:i<=64):(x % (2 ^ 64:Nat)).toNat % 2 ^ i=(x % (2 ^ i:Nat)).toNat:=by
 have hp:(0:Int)<((2 ^ i:Nat):Int):=by exact_mod_cast Nat.two_pow_pos i
 have hd:((2 ^ i:Nat):Int)∣((2 ^ 64:Nat):Int):=by exact_mod_cast Nat.pow_dvd_pow 2 hi
 have h1:(x % ((2 ^ 64:Nat):Int)) % ((2 ^ i:Nat):Int)=x % ((2 ^ i:Nat):Int):=Int.emod_emod_of_dvd x hd;have h0:0<=x % ((2 ^ 64:Nat):Int):=Int.emod_nonneg _ (by decide);rw[<-h1];generalize x % ((2 ^ 64:Nat):Int)=y at h0 ⊢;obtain⟨n,rfl⟩:=Int.eq_ofNat_of_zero_le h0;rw[<-Int.natCast_emod,Int.toNat_natCast,Int.toNat_natCast]
theorem mU (x:Int) (i:Nat) (hi:i<=62):bits .and .i64 x (((2 ^ i - 1:Nat)):Int)=x % ((2 ^ i:Nat):Int):=by
 have hlt:2 ^ i - 1<2 ^ 64:=qW (Nat.sub_lt (Nat.two_pow_pos i) (by decide)) (Nat.pow_le_pow_right (by decide) (by omega));have hw:∀ n:Nat,n<2 ^ 62->IntKind.i64.wrap (n:Int)=n:=by
  intro n hn;rw[jH];omega
 have hm:(x % ((2 ^ i:Nat):Int)).toNat<2 ^ i:=by
  have hp:(0:Int)<((2 ^ i:Nat):Int):=by exact_mod_cast Nat.two_pow_pos i
  have:=Int.emod_lt_of_pos x hp;have:=Int.emod_nonneg x (Int.ne_of_gt hp);omega
 show IntKind.i64.wrap (((BitVec.ofInt 64 x &&&BitVec.ofInt 64 ((2 ^ i - 1:Nat):Int)).toNat:Nat):Int)=_;rw[BitVec.ofInt_natCast,BitVec.toNat_and,BitVec.toNat_ofNat,BitVec.toNat_ofInt,Nat.mod_eq_of_lt hlt];rw[Nat.and_two_pow_sub_one_eq_mod,tN x i (by omega)];rw[hw _ (qW hm (Nat.pow_le_pow_right (by decide) hi))];have hp:(0:Int)<((2 ^ i:Nat):Int):=by exact_mod_cast Nat.two_pow_pos i
 have:=Int.emod_nonneg x (Int.ne_of_gt hp);omega
theorem FQ (x:Int):bits .and .i64 x 7=x % 8:=mU x 3 (by omega)
theorem Et (x:Int):bits .and .i64 x 15=x % 16:=mU x 4 (by omega)
theorem tO (x:Int):bits .and .i64 x 255=x % 256:=mU x 8 (by omega)
theorem mV (x:Int) (i:Nat) (hi:i<=63):bits .and .u64 x (((2 ^ i - 1:Nat)):Int)=x % ((2 ^ i:Nat):Int):=by
 have hlt:2 ^ i - 1<2 ^ 64:=qW (Nat.sub_lt (Nat.two_pow_pos i) (by decide)) (Nat.pow_le_pow_right (by decide) (by omega));have hw:∀ n:Nat,n<2 ^ 63->IntKind.u64.wrap (n:Int)=n:=by
  intro n hn;rw[IntKind.wrap_u64];omega
 have hp:(0:Int)<((2 ^ i:Nat):Int):=by exact_mod_cast Nat.two_pow_pos i
 have h0:=Int.emod_nonneg x (Int.ne_of_gt hp);have hm:(x % ((2 ^ i:Nat):Int)).toNat<2 ^ i:=by
  have:=Int.emod_lt_of_pos x hp;omega
 show IntKind.u64.wrap (((BitVec.ofInt 64 x &&&BitVec.ofInt 64 ((2 ^ i - 1:Nat):Int)).toNat:Nat):Int)=_;rw[BitVec.ofInt_natCast,BitVec.toNat_and,BitVec.toNat_ofNat,BitVec.toNat_ofInt,Nat.mod_eq_of_lt hlt];rw[Nat.and_two_pow_sub_one_eq_mod,tN x i (by omega)];rw[hw _ (qW hm (Nat.pow_le_pow_right (by decide) hi))];omega
theorem FT (x:Int):bits .and .u64 x 7=x % 8:=mV x 3 (by omega)
theorem qx (x:Int):bits .and .u64 x 65535=x % 65536:=mV x 16 (by omega)
theorem vU (x:Int):bits .and .u64 x 131071=x % 131072:=mV x 17 (by omega)
theorem nat_bit40 (n:Nat):n &&&1099511627776=n / 1099511627776 % 2*1099511627776:=nat_bit 40 n
theorem xY (x:Int) (h0:0<=x) (h1:x<18446744073709551616):bits .and .u64 x 1099511627776=x / 1099511627776 % 2*1099511627776:=by
 rw[u64_and x 1099511627776 h0 h1 (by decide) (by decide)];show ((x.toNat &&&1099511627776:Nat):Int)=_;rw[nat_bit40];omega
theorem FU (t s:Int) (h0:0<=t) (h1:t<=65535) (h2:0<=s) (h3:s<=65536):bits .or .u64 (t*131072) s=t*131072+s:=by
 obtain⟨a,rfl⟩:=Int.eq_ofNat_of_zero_le h0;obtain⟨b,rfl⟩:=Int.eq_ofNat_of_zero_le h2;rw[u64_or _ _ (by omega) (by omega) (by omega) (by omega)];rw[show ((a:Int)*131072).toNat=2 ^ 17*a from by omega,show ((b:Int)).toNat=b from by omega];rw[<-Nat.two_pow_add_eq_or_of_lt (i:=17) (b:=b) (by omega) a];omega
theorem I8 (t s:Int) (h0:0<=t) (h1:t<2305843009213693952) (h2:0<=s) (h3:s<8):bits .or .u64 (t*8) s=t*8+s:=by
 obtain⟨a,rfl⟩:=Int.eq_ofNat_of_zero_le h0;obtain⟨b,rfl⟩:=Int.eq_ofNat_of_zero_le h2;rw[u64_or _ _ (by omega) (by omega) (by omega) (by omega)];rw[show ((a:Int)*8).toNat=2 ^ 3*a from by omega,show ((b:Int)).toNat=b from by omega];rw[<-Nat.two_pow_add_eq_or_of_lt (i:=3) (b:=b) (by omega) a];omega
theorem u64_or16 (t s:Int) (h0:0<=t) (h1:t<281474976710656) (h2:0<=s) (h3:s<65536):bits .or .u64 (t*65536) s=t*65536+s:=by
 obtain⟨a,rfl⟩:=Int.eq_ofNat_of_zero_le h0;obtain⟨b,rfl⟩:=Int.eq_ofNat_of_zero_le h2;rw[u64_or _ _ (by omega) (by omega) (by omega) (by omega)];rw[show ((a:Int)*65536).toNat=2 ^ 16*a from by omega,show ((b:Int)).toNat=b from by omega];rw[<-Nat.two_pow_add_eq_or_of_lt (i:=16) (b:=b) (by omega) a];omega
end Go.Proofs.YthicolbbmjfkfaaGreat.Bt
namespace Go.Proofs.YthicolbbmjfkfaaGreat.Word
open Go.ChangeShapes Go.WideShapes Go.ChangeAt Go.RowKit
theorem nW (w:World):Calls Tryz.prog 127 #[] w fun e G=>e=.returned (.int .u64 2305843009213693952)∧w=G:=by
 go_enter Tryz.func127,Tryz.ntmps127;go_wp2;go_ret;exact⟨rfl,rfl⟩
theorem FV (t:Int) (h0:0<=t) (h1:t<=1099511627776) (w:World):Calls Tryz.prog 185 #[.int .u64 t] w fun e G=>e=.returned (.tuple #[.int .u64 t,.bool true])∧w=G:=by
 go_enter Tryz.func185,Tryz.ntmps185;go_wp2
 go_ret2
 exact⟨rfl,rfl⟩
theorem I9 (t:Int) (h0:1<=t) (h1:t<=65535) (w:World):Calls Tryz.prog 148 #[.int .i64 t] w fun e G=>e=.returned (.tuple #[.int .u64 (4611686018427387904+t),.bool true])∧w=G:=by
 go_enter Tryz.func148,Tryz.ntmps148;go_wp2
 go_ret2
 exact⟨rfl,rfl⟩
def Qn (t:Int):Int:=if t<=1099511627776 then 1 else if t=2305843009213693952 then 3 else if 4611686018427387904<t∧t<=4611686018427453439 then 2 else 0
def Qo (t:Int):Int:=if t<=1099511627776 then t else if 4611686018427387904<t∧t<=4611686018427453439 then t - 4611686018427387904 else 0
theorem mD (t:Int) (h0:0<=t) (hu:t<18446744073709551616) (w:World):Calls Tryz.prog 108 #[.int .u64 t] w fun e G=>e=.returned (.agg #[.int .i64 (Qn t),.int .u64 (Qo t)])∧Below w.heap.size w G:=by
 unfold Qn Qo
 by_cases h1:t<=1099511627776
 . rw[aV h1,aV h1]
   go_enter Tryz.func108,Tryz.ntmps108;go_wp2;exact bodyPost_ret (v:=.agg #[.int .i64 1,.int .u64 t]) (by simp[results,Tryz.results108,go_sem]) rfl ⟨rfl,(Below.refl _ _).alloc (zr _) _⟩
 . rw[aX h1,aX h1]
   by_cases h2:t=2305843009213693952
   . subst h2
     go_enter Tryz.func108,Tryz.ntmps108;go_wp2;exact bodyPost_ret (v:=.agg #[.int .i64 3,.int .u64 0]) (by simp[results,Tryz.results108,go_sem]) rfl ⟨rfl,(Below.refl _ _).alloc (zr _) _⟩
   . rw[aX h2]
     have e2:(t==2305843009213693952)=false:=beq_eq_false_iff_ne.2 h2
     by_cases h3:4611686018427387904<t∧t<=4611686018427453439
     . rw[aV h3,aV h3]
       obtain⟨h3,h4⟩:=h3;go_enter Tryz.func108,Tryz.ntmps108;go_wp2;exact bodyPost_ret (v:=.agg #[.int .i64 2,.int .u64 (t - 4611686018427387904)]) (by simp[results,Tryz.results108,go_sem]) rfl ⟨rfl,(Below.refl _ _).alloc (zr _) _⟩
     . rw[aX h3,aX h3]
       by_cases h4:4611686018427387904<t
       . have h5:4611686018427453439<t:=by omega
         clear h3;go_enter Tryz.func108,Tryz.ntmps108;go_wp2;exact bodyPost_ret (v:=.agg #[.int .i64 0,.int .u64 0]) (by simp[results,Tryz.results108,go_sem]) rfl ⟨rfl,(Below.refl _ _).alloc (zr _) _⟩
       . clear h3
         go_enter Tryz.func108,Tryz.ntmps108;go_wp2;exact bodyPost_ret (v:=.agg #[.int .i64 0,.int .u64 0]) (by simp[results,Tryz.results108,go_sem]) rfl ⟨rfl,(Below.refl _ _).alloc (zr _) _⟩
theorem FW (s t:Int) (h0:0<=s) (h1:s<=65535) (h2:0<=t) (h3:t<=65535) (w:World):Calls Tryz.prog 178 #[.int .i64 s,.int .i64 t] w fun e G=>e=.returned (.tuple #[.int .u64 (t*131072+(s+1)),.bool true])∧w=G:=by
 have e1:=Bt.FU t (s+1) h2 h3 (by omega) (by omega);go_enter Tryz.func178,Tryz.ntmps178;go_wp2
 go_ret2
 exact⟨rfl,rfl⟩
theorem BV (x:Int) (h0:-9223372036854775808<=x) (h1:x<9223372036854775808):wrap64 x=x:=by
 unfold wrap64;omega
theorem Ja {a b a' b':Int} {c c':Bool} (h1:a=a') (h2:b=b') (h3:c=c'):Ending.returned (.tuple #[.int .i64 a,.int .i64 b,.bool c])=.returned (.tuple #[.int .i64 a',.int .i64 b',.bool c']):=by
 rw[h1,h2,h3]
theorem mW (t:Int) (h0:0<=t) (hu:t<18446744073709551616) (w:World):Calls Tryz.prog 107 #[.int .u64 t] w fun e G=>e=.returned (.tuple #[.int .i64 (t % 131072 - 1),.int .i64 (t / 131072 % 65536),.bool (t / 1099511627776 % 2==1)])∧w=G:=by
 go_enter Tryz.func107,Tryz.ntmps107;go_wp2
 go_ret3
 refine⟨Ja ?_ ?_ ?_,rfl⟩
 . rw[Bt.vU,BV (t % 131072) (by omega) (by omega),BV _ (by omega) (by omega)]
 . rw[Bt.qx,BV _ (by omega) (by omega)]
 . rw[Bt.xY t h0 hu,Bool.eq_iff_iff]
   simp only[bne_iff_ne,beq_iff_eq];omega
end Go.Proofs.YthicolbbmjfkfaaGreat.Word
