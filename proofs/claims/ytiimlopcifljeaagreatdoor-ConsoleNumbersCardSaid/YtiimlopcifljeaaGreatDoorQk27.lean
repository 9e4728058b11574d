import Derived.Test.YtiimlopcifljeaaGreatDoorQk24
namespace Go.Proofs.YtiimlopcifljeaaGreatDoor.Em
open Go.ChangeShapes Go.WideShapes Go.ChangeAt Go.RowKit En
set_option linter.unusedVariables false
set_option linter.unusedSimpArgs false
set_option maxRecDepth 100000
set_option maxHeartbeats 1600000
theorem conf_bad0 (sl li:Int) (h0:sl<1) (w:World):Calls Tryz.prog 57 #[.agg #[.int .i64 sl,.int .u64 li]] w fun e w'=>e=.returned (.bool false)∧Below w.heap.size w w':=by
 have HB:=Lib.hid (((Below.refl _ w).alloc (Nat.le_refl _) (.cells #[.int .i64 sl,.int .u64 li] 35)))
 have c0:((1:Int)≤sl)=False:=by simp;omega
 have d0:decide ((1:Int)≤sl)=false:=by simp;omega
 clear h0
 go_enter Tryz.func57,Tryz.ntmps57
 go_wp2
 go_ret
 exact⟨rfl,HB.out⟩
theorem conf_bad1 (sl li:Int) (h0:1≤sl) (h1:256<sl) (w:World):Calls Tryz.prog 57 #[.agg #[.int .i64 sl,.int .u64 li]] w fun e w'=>e=.returned (.bool false)∧Below w.heap.size w w':=by
 have HB:=Lib.hid (((Below.refl _ w).alloc (Nat.le_refl _) (.cells #[.int .i64 sl,.int .u64 li] 35)))
 have c0:((1:Int)≤sl)=True:=by simp;omega
 have d0:decide ((1:Int)≤sl)=true:=by simp;omega
 have c1:(sl≤256)=False:=by simp;omega
 have d1:decide (sl≤256)=false:=by simp;omega
 clear h0 h1
 go_enter Tryz.func57,Tryz.ntmps57
 go_wp2
 go_ret
 exact⟨rfl,HB.out⟩
theorem conf_bad2 (sl li:Int) (h0:1≤sl) (h1:sl≤256) (h2:li<1) (w:World):Calls Tryz.prog 57 #[.agg #[.int .i64 sl,.int .u64 li]] w fun e w'=>e=.returned (.bool false)∧Below w.heap.size w w':=by
 have HB:=Lib.hid (((Below.refl _ w).alloc (Nat.le_refl _) (.cells #[.int .i64 sl,.int .u64 li] 35)))
 have c0:((1:Int)≤sl)=True:=by simp;omega
 have d0:decide ((1:Int)≤sl)=true:=by simp;omega
 have c1:(sl≤256)=True:=by simp;omega
 have d1:decide (sl≤256)=true:=by simp;omega
 have c2:((1:Int)≤li)=False:=by simp;omega
 have d2:decide ((1:Int)≤li)=false:=by simp;omega
 clear h0 h1 h2
 go_enter Tryz.func57,Tryz.ntmps57
 go_wp2
 go_ret
 exact⟨rfl,HB.out⟩
theorem conf_bad3 (sl li:Int) (h0:1≤sl) (h1:sl≤256) (h2:1≤li) (h3:1099511627776<li) (w:World):Calls Tryz.prog 57 #[.agg #[.int .i64 sl,.int .u64 li]] w fun e w'=>e=.returned (.bool false)∧Below w.heap.size w w':=by
 have HB:=Lib.hid (((Below.refl _ w).alloc (Nat.le_refl _) (.cells #[.int .i64 sl,.int .u64 li] 35)))
 have c0:((1:Int)≤sl)=True:=by simp;omega
 have d0:decide ((1:Int)≤sl)=true:=by simp;omega
 have c1:(sl≤256)=True:=by simp;omega
 have d1:decide (sl≤256)=true:=by simp;omega
 have c2:((1:Int)≤li)=True:=by simp;omega
 have d2:decide ((1:Int)≤li)=true:=by simp;omega
 have c3:(li≤1099511627776)=False:=by simp;omega
 have d3:decide (li≤1099511627776)=false:=by simp;omega
 clear h0 h1 h2 h3
 go_enter Tryz.func57,Tryz.ntmps57
 go_wp2
 go_ret
 exact⟨rfl,HB.out⟩
theorem new_bad (sl li:Int) (hc:∀ w,Calls Tryz.prog 57 #[.agg #[.int .i64 sl,.int .u64 li]] w fun e w'=>e=.returned (.bool false)∧Below w.heap.size w w') (w:World):Calls Tryz.prog 30 #[.agg #[.int .i64 sl,.int .u64 li]] w fun e w'=>e=.returned (.tuple #[.pointer none,.int .i64 1])∧Below w.heap.size w w':=by
 have HC:=Lib.hid hc
 have HB:=Lib.hid (((Below.refl _ w).alloc (Nat.le_refl _) (.cells #[.int .i64 sl,.int .u64 li] 35)))
 clear hc
 go_enter Tryz.func30,Tryz.ntmps30
 go_wp2_with (go_at_call 57;refine (HC.out _).mono ?_;rintro e w1 ⟨rfl,hb⟩;have HB1:=Lib.hid (HB.out.trans (hb.mono (by simp)));clear hb)
 go_ret2
 exact⟨rfl,HB1.out⟩
theorem new_no (sl li:Int) (h:¬ (1≤sl∧sl≤256∧1≤li∧li≤1099511627776)) (w:World):Calls Tryz.prog 30 #[.agg #[.int .i64 sl,.int .u64 li]] w fun e w'=>e=.returned (.tuple #[.pointer none,.int .i64 1])∧Below w.heap.size w w':=by
 refine new_bad sl li (fun w=>?_) w
 by_cases h0:sl<1
 · exact conf_bad0 sl li h0 w
 by_cases h1:256<sl
 · exact conf_bad1 sl li (by omega) h1 w
 by_cases h2:li<1
 · exact conf_bad2 sl li (by omega) (by omega) h2 w
 · exact conf_bad3 sl li (by omega) (by omega) (by omega) (by omega) w
end Go.Proofs.YtiimlopcifljeaaGreatDoor.Em
namespace Go.Proofs.YtiimlopcifljeaaGreatDoor.Cn
open Go.ChangeShapes Go.WideShapes Go.ChangeAt Go.RowKit Go.Shelf Em En
set_option linter.unusedVariables false
set_option linter.unusedSimpArgs false
set_option maxRecDepth 100000
set_option maxHeartbeats 1600000
theorem snew_no (sl li:Int) (h:¬ (1≤sl∧sl≤256∧1≤li∧li≤1099511627776)) (w:World):Calls Tryz.prog 20 #[.agg #[.int .i64 sl,.int .u64 li]] w fun e w'=>e=.returned (.tuple #[.pointer none,.int .i64 1])∧Below w.heap.size w w':=by
 have HN:=Lib.hid (fun w=>new_no sl li h w)
 have HB:=Lib.hid (((Below.refl _ w).alloc (Nat.le_refl _) (.cells #[.int .i64 sl,.int .u64 li] 35)))
 clear h
 go_enter Tryz.func20,Tryz.ntmps20
 go_wp2_with (go_at_call 30;refine (HN.out _).mono ?_;rintro e w1 ⟨rfl,hb⟩;have HB1:=Lib.hid (HB.out.trans (hb.mono (by simp)));clear hb)
 refine bodyPost_ret (results_tmp2 rfl _ _ _) rfl ⟨rfl,HB1.out⟩
theorem cnew_no (sl li:Int) (h:¬ (1≤sl∧sl≤256∧1≤li∧li≤1099511627776)) (w:World):Calls Tryz.prog 9 #[.agg #[.int .i64 sl,.int .u64 li]] w fun e w'=>e=.returned (.tuple #[.pointer none,.int .i64 1])∧Below w.heap.size w w':=by
 have HN:=Lib.hid (fun w=>snew_no sl li h w)
 have HB:=Lib.hid (((Below.refl _ w).alloc (Nat.le_refl _) (.cells #[.int .i64 sl,.int .u64 li] 35)))
 clear h
 go_enter Tryz.func9,Tryz.ntmps9
 go_wp2_with (go_at_call 20;refine (HN.out _).mono ?_;rintro e w1 ⟨rfl,hb⟩;have HB1:=Lib.hid (HB.out.trans (hb.mono (by simp)));clear hb)
 refine bodyPost_ret (results_tmp2 rfl _ _ _) rfl ⟨rfl,HB1.out⟩
theorem rnew_no (sl li:Int) (h:¬ (1≤sl∧sl≤256∧1≤li∧li≤1099511627776)) (w:World):Calls Tryz.prog 10 #[.agg #[.int .i64 sl,.int .u64 li]] w fun e w'=>e=.returned (.pointer none)∧Below w.heap.size w w':=by
 have HB:=Lib.hid (((Below.refl _ w).alloc (Nat.le_refl _) (.cells #[.int .i64 sl,.int .u64 li] 35)))
 go_enter Tryz.func10,Tryz.ntmps10
 by_cases h0:sl<1
 · go_wp2
   go_ret
   exact⟨rfl,HB.out⟩
 by_cases h1:256<sl
 · go_wp2
   go_ret
   exact⟨rfl,HB.out⟩
 by_cases h2:li<1
 · go_wp2
   go_ret
   exact⟨rfl,HB.out⟩
 have h3:1099511627776<li:=by omega
 go_wp2
 go_ret
 exact⟨rfl,HB.out⟩
theorem rnew_yes (sl li:Int) (h0:¬ sl<1) (h1:¬ 256<sl) (h2:¬ li<1) (h3:¬ 1099511627776<li) (w:World):Calls Tryz.prog 10 #[.agg #[.int .i64 sl,.int .u64 li]] w fun e w'=>(∃ a,e=.returned (.pointer (some a)))∧Below w.heap.size w w':=by
 have HB:=Lib.hid (((Below.refl _ w).alloc (Nat.le_refl _) (.cells #[.int .i64 sl,.int .u64 li] 35)))
 go_enter Tryz.func10,Tryz.ntmps10
 go_wp2
 go_ret
 exact⟨⟨_,rfl⟩,HB.out.alloc (by simp) _⟩
end Go.Proofs.YtiimlopcifljeaaGreatDoor.Cn
