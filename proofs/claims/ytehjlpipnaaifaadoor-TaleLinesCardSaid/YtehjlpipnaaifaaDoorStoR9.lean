/- Story: the round where x&15 is 9. -/
import Derived.Test.YtehjlpipnaaifaaDoorStoR
import Derived.Deep.CutRange
namespace Go.Proofs.YtehjlpipnaaifaaDoor.Tl
open Go.ChangeShapes Go.WideShapes Go.ChangeAt Go.RowKit
set_option linter.unusedVariables false
set_option linter.unusedSimpArgs false
set_option maxRecDepth 1000000
set_option maxHeartbeats 100000000

theorem arm9 (w wr : World) (B off len cap k nn cc : Nat) (av : Option Addr) (cv : Nat) (l : List (Er × List (Int × Int))) (x : Int) (y8 y9 y10 y11 y12 y13 y14 y15 y16 y17 y18 y19 y20 y21 y22 y23 y24 y25 y26 y27 y28 y29 y30 y31 y32 y33 y34 y35 y36 y37 y38 y39 y40 y41 y42 y43 y44 y45 y46 y47 y48 y49 y50 y51 y52 y53 y54 y55 y56 y57 y58 y59 y60 y61 y62 y63 y64 y65 y66 y67 y68 y69 y70 y71 y72 y73 y74 y75 y76 y77 y78 y79 y80 y81 y82 y83 y84 y85 y86 y87 y88 y89 y90 y91 y92 y93 y94 y95 y96 y97 y98 y99 y100 y101 y102 y103 y104 y105 y106 y107 y108 y109 y110 y111 y112 y113 y114 y115 y116 y117 y118 y119 y120 y121 y122 y123 y124 y125 y126 y127 y128 y129 y130 y131 y132 y133 y134 y135 y136 y137 y138 y139 y140 y141 y142 y143 y144 y145 y146 y147 y148 y149 y150 y151 y152 y153 y154 y155 y156 y157 y158 y159 y160 y161 y162 y163 y164 y165 y166 y167 y168 y169 y170 y171 y172 y173 y174 y175 y176 y177 y178 y179 y180 y181 y182 y183 y184 y185 y186 y187 y188 y189 y190 y191 y192 y193 y194 y195 y196 y197 y198 y199 : Value) (K : Act → World → Prop) (Q' : Exit → Act → World → Prop)
    (hl : k < len) (hlc : len ≤ cap) (hcm : cap ≤ 9223372036854775807) (hk6 : k < 60) (hn : nn ≤ 29) (hc : cc ≤ k) (hS : StI w w.heap.size wr (.slice av l.length cv) l k) (hBl : B < w.heap.size) (hx : wr.cell? ⟨B, off + k, none⟩ = some (.int .i64 x)) (hcx : x % 16 = 9)
    (hK : Hid (∀ (u8 u9 u10 u11 u12 u13 u14 u15 u16 u17 u18 u19 u20 u21 u22 u23 u24 u25 u26 u27 u28 u29 u30 u31 u32 u33 u34 u35 u36 u37 u38 u39 u40 u41 u42 u43 u44 u45 u46 u47 u48 u49 u50 u51 u52 u53 u54 u55 u56 u57 u58 u59 u60 u61 u62 u63 u64 u65 u66 u67 u68 u69 u70 u71 u72 u73 u74 u75 u76 u77 u78 u79 u80 u81 u82 u83 u84 u85 u86 u87 u88 u89 u90 u91 u92 u93 u94 u95 u96 u97 u98 u99 u100 u101 u102 u103 u104 u105 u106 u107 u108 u109 u110 u111 u112 u113 u114 u115 u116 u117 u118 u119 u120 u121 u122 u123 u124 u125 u126 u127 u128 u129 u130 u131 u132 u133 u134 u135 u136 u137 u138 u139 u140 u141 u142 u143 u144 u145 u146 u147 u148 u149 u150 u151 u152 u153 u154 u155 u156 u157 u158 u159 u160 u161 u162 u163 u164 u165 u166 u167 u168 u169 u170 u171 u172 u173 u174 u175 u176 u177 u178 u179 u180 u181 u182 u183 u184 u185 u186 u187 u188 u189 u190 u191 u192 u193 u194 u195 u196 u197 u198 u199 v n c b : Value) (w'' : World), StRel w v n c b w'' → stMu b < 60 - k → K ⟨#[.slice (some ⟨B, off, none⟩) len cap, undef, .slice none 0 0, v, n, c, .pointer (some ⟨w.heap.size, 0, none⟩), b, u8, u9, u10, u11, u12, u13, u14, u15, u16, u17, u18, u19, u20, u21, u22, u23, u24, u25, u26, u27, u28, u29, u30, u31, u32, u33, u34, u35, u36, u37, u38, u39, u40, u41, u42, u43, u44, u45, u46, u47, u48, u49, u50, u51, u52, u53, u54, u55, u56, u57, u58, u59, u60, u61, u62, u63, u64, u65, u66, u67, u68, u69, u70, u71, u72, u73, u74, u75, u76, u77, u78, u79, u80, u81, u82, u83, u84, u85, u86, u87, u88, u89, u90, u91, u92, u93, u94, u95, u96, u97, u98, u99, u100, u101, u102, u103, u104, u105, u106, u107, u108, u109, u110, u111, u112, u113, u114, u115, u116, u117, u118, u119, u120, u121, u122, u123, u124, u125, u126, u127, u128, u129, u130, u131, u132, u133, u134, u135, u136, u137, u138, u139, u140, u141, u142, u143, u144, u145, u146, u147, u148, u149, u150, u151, u152, u153, u154, u155, u156, u157, u158, u159, u160, u161, u162, u163, u164, u165, u166, u167, u168, u169, u170, u171, u172, u173, u174, u175, u176, u177, u178, u179, u180, u181, u182, u183, u184, u185, u186, u187, u188, u189, u190, u191, u192, u193, u194, u195, u196, u197, u198, u199, undef], []⟩ w'')) :
    Code.wp Tryd.prog storyBody (Exit.then K Q') ⟨#[.slice (some ⟨B, off, none⟩) len cap, undef, .slice none 0 0, .slice av l.length cv, .int .i64 (nn : Int), .int .u64 (cc : Int), .pointer (some ⟨w.heap.size, 0, none⟩), .int .i64 (k : Int), y8, y9, y10, y11, y12, y13, y14, y15, y16, y17, y18, y19, y20, y21, y22, y23, y24, y25, y26, y27, y28, y29, y30, y31, y32, y33, y34, y35, y36, y37, y38, y39, y40, y41, y42, y43, y44, y45, y46, y47, y48, y49, y50, y51, y52, y53, y54, y55, y56, y57, y58, y59, y60, y61, y62, y63, y64, y65, y66, y67, y68, y69, y70, y71, y72, y73, y74, y75, y76, y77, y78, y79, y80, y81, y82, y83, y84, y85, y86, y87, y88, y89, y90, y91, y92, y93, y94, y95, y96, y97, y98, y99, y100, y101, y102, y103, y104, y105, y106, y107, y108, y109, y110, y111, y112, y113, y114, y115, y116, y117, y118, y119, y120, y121, y122, y123, y124, y125, y126, y127, y128, y129, y130, y131, y132, y133, y134, y135, y136, y137, y138, y139, y140, y141, y142, y143, y144, y145, y146, y147, y148, y149, y150, y151, y152, y153, y154, y155, y156, y157, y158, y159, y160, y161, y162, y163, y164, y165, y166, y167, y168, y169, y170, y171, y172, y173, y174, y175, y176, y177, y178, y179, y180, y181, y182, y183, y184, y185, y186, y187, y188, y189, y190, y191, y192, y193, y194, y195, y196, y197, y198, y199, undef], []⟩ wr := by
  conv => arg 2; whnf
  have b1 : (k : Int) < (len : Int) := by omega
  have b2 : (k : Int) < 60 := by omega
  have b3 : (0 : Int) ≤ (k : Int) := by omega
  have HS := Lib.hid hS
  have HLT := Lib.hid hk6
  clear hS hk6 hl
  go_upto_if 26 with fail
  go_cut [9] from 11 to 199 (fun s9 wc => ∃ τ : Nat, s9 = .int .i64 (τ : Int) ∧ τ ≤ nn ∧ wc = wr)
  case first =>
    rcases Nat.eq_zero_or_pos nn with h0 | h0
    · subst h0
      go_wp2_with fail
      go_meet
      case rel => exact ⟨0, rfl, Nat.le_refl _, rfl⟩
    · have hq : (decide (0 < nn)) = true := by simpa using h0
      have hne : ((nn : Int) == 0) = false := by simp; omega
      have hne2 : ¬ ((nn : Int) = 0) := by omega
      go_wp2_with fail
      go_meet
      case rel =>
        obtain ⟨τ, e1, e2, e3⟩ := pick_t (x / 16) nn h0
        exact ⟨τ, by rw [e1, wrap64_small (by omega)], e3, rfl⟩
  obtain ⟨τ, rfl, hτ, rfl⟩ := hcut
  have hb15 : bits .and .i64 x 15 = (9 : Int) := by rw [Bt.i64_and15]; exact hcx
  have hb3 : bits .and .i64 x 3 = ((9 % 4 : Nat) : Int) := by rw [Bt.i64_and3]; omega
  clear hcx
  obtain ⟨s3, hs3, es3⟩ : ∃ s3 : Nat, s3 ≤ 2 ∧ (bits .and .i64 (x / 16) 255).tmod 3 = (s3 : Int) := by
    obtain ⟨τ', e1, e2, e3⟩ := pick_t (x / 16) 3 (by omega)
    exact ⟨τ' - 1, by omega, by have e1' : (bits .and .i64 (x / 16) 255).tmod 3 + 1 = (τ' : Int) := e1; omega⟩
  obtain ⟨q1, hq1, eq1⟩ : ∃ q1 : Nat, q1 ≤ 3 ∧ bits .and .i64 (x / 256) 3 = (q1 : Int) := ⟨(x / 256 % 4).toNat, by omega, by rw [Bt.i64_and3]; omega⟩
  obtain ⟨q2, hq2, eq2⟩ : ∃ q2 : Nat, q2 ≤ 7 ∧ bits .and .i64 (x / 1024) 7 = (q2 : Int) := ⟨(x / 1024 % 8).toNat, by omega, by rw [Bt.i64_and7]; omega⟩
  obtain ⟨q3v, hq3, eq3⟩ : ∃ q3 : Nat, q3 ≤ 3 ∧ bits .and .i64 (x / 1024) 3 = (q3 : Int) := ⟨(x / 1024 % 4).toNat, by omega, by rw [Bt.i64_and3]; omega⟩
  obtain ⟨q4, hq4, eq4⟩ : ∃ q4 : Nat, q4 ≤ 15 ∧ bits .and .i64 (x / 1024) 15 = (q4 : Int) := ⟨(x / 1024 % 16).toNat, by omega, by rw [Bt.i64_and15]; omega⟩
  obtain ⟨q5, hq5, eq5⟩ : ∃ q5 : Nat, q5 ≤ 7 ∧ bits .and .i64 (x / 16) 7 = (q5 : Int) := ⟨(x / 16 % 8).toNat, by omega, by rw [Bt.i64_and7]; omega⟩
  have hl9 : l.length < 1000000 := by have := HS.out.len; omega
  have hskip := True.intro
  by_cases ht0 : τ ≤ 1
  · have gq0 : ¬ ((1 : Int) < (τ : Int)) := by omega
    have gq1 : ¬ (1 < τ) := by omega
    go_wp2_with fail
    refine hK.out _ _ _ _ _ _ _ _ _ _ _ _ _ _ _ _ _ _ _ _ _ _ _ _ _ _ _ _ _ _ _ _ _ _ _ _ _ _ _ _ _ _ _ _ _ _ _ _ _ _ _ _ _ _ _ _ _ _ _ _ _ _ _ _ _ _ _ _ _ _ _ _ _ _ _ _ _ _ _ _ _ _ _ _ _ _ _ _ _ _ _ _ _ _ _ _ _ _ _ _ _ _ _ _ _ _ _ _ _ _ _ _ _ _ _ _ _ _ _ _ _ _ _ _ _ _ _ _ _ _ _ _ _ _ _ _ _ _ _ _ _ _ _ _ _ _ _ _ _ _ _ _ _ _ _ _ _ _ _ _ _ _ _ _ _ _ _ _ _ _ _ _ _ _ _ _ _ _ _ _ _ _ _ _ _ _ _ _ _ _ _ _ _ _ _ _ _ ⟨k + 1, nn, cc, l, by first | rfl | (rw [Int.natCast_add]; rfl), by first | rfl | (rw [Int.natCast_add]; rfl), by first | rfl | (rw [Int.natCast_add]; rfl), HLT.out, by omega, by omega, HS.out.more⟩ ?_
    unfold stMu
    simp only
    have := HLT.out
    omega
  · have gq0 : (1 : Int) < (τ : Int) := by omega
    have gq1 : 1 < τ := by omega
    have gq2 : (0 : Int) ≤ (τ : Int) := by omega
    have gq3 : (τ : Int) < 30 := by omega
    obtain ⟨⟨z, kz⟩, _⟩ := HS.out.cell τ (by omega)
    by_cases hzz : 0 < z
    · have gq4 : decide (0 < z) = true := by simpa using hzz
      obtain ⟨σ, rfl⟩ : ∃ σ, τ = σ + 1 := ⟨τ - 1, by omega⟩
      have hown := HS.out.row
      replace hown := hown.alloc (.cells (evC ⟨4, (σ : Int) + 1, σ, 0, 0, 0, 0, 0, 0, none, 0, 0, 0, 0⟩).toArray 30)
      have hbs : w.heap.size ≤ (wc).heap.size + 1 := Nat.le_succ_of_le (Nat.le_trans HS.out.bel.size (Below.size (Below.refl wc.heap.size wc)))
      go_wp2_with (at_builtin; refine append_V _ rfl (.tmp 155) (.tmp 161) rfl w.heap.size (.slice av l.length cv) l.length (flat (l.map Prod.fst)) rfl hown ⟨wc.heap.size, 0, none⟩ 1 ⟨4, (σ : Int) + 1, σ, 0, 0, 0, 0, 0, 0, none, 0, 0, 0, 0⟩ rfl ?c1 hl9 ?c5 ?_)
      case c1 => first | exact fun j u h => h | exact Ow.new_row (wc) (evC ⟨4, (σ : Int) + 1, σ, 0, 0, 0, 0, 0, 0, none, 0, 0, 0, 0⟩) _ _ (by simp) | exact Ow.new_row (wc) (evC ⟨4, (σ : Int) + 1, σ, 0, 0, 0, 0, 0, 0, none, 0, 0, 0, 0⟩) _ _ rfl
      try (case c5 => simpa using hbs)
      intro v' w2 p1 p2
      have hS2 := HS.out.push (Below.refl _ _) ⟨4, (σ : Int) + 1, σ, 0, 0, 0, 0, 0, 0, none, 0, 0, 0, 0⟩ [] (by constructor <;> (try dsimp only) <;> omega) (.inl ⟨rfl, rfl, rfl, rfl⟩) p1 p2
      obtain ⟨a4, cap4, rfl, _, _, _⟩ := Ow.own_form p1
      have HF := Lib.hid hS2
      clear p1 p2 hS2 hown
      go_wp2_with fail
      refine hK.out _ _ _ _ _ _ _ _ _ _ _ _ _ _ _ _ _ _ _ _ _ _ _ _ _ _ _ _ _ _ _ _ _ _ _ _ _ _ _ _ _ _ _ _ _ _ _ _ _ _ _ _ _ _ _ _ _ _ _ _ _ _ _ _ _ _ _ _ _ _ _ _ _ _ _ _ _ _ _ _ _ _ _ _ _ _ _ _ _ _ _ _ _ _ _ _ _ _ _ _ _ _ _ _ _ _ _ _ _ _ _ _ _ _ _ _ _ _ _ _ _ _ _ _ _ _ _ _ _ _ _ _ _ _ _ _ _ _ _ _ _ _ _ _ _ _ _ _ _ _ _ _ _ _ _ _ _ _ _ _ _ _ _ _ _ _ _ _ _ _ _ _ _ _ _ _ _ _ _ _ _ _ _ _ _ _ _ _ _ _ _ _ _ _ _ _ _ ⟨k + 1, nn, cc, l ++ [(⟨4, (σ : Int) + 1, σ, 0, 0, 0, 0, 0, 0, none, 0, 0, 0, 0⟩, [])], by first | rfl | (rw [Int.natCast_add]; rfl), by first | rfl | (rw [Int.natCast_add]; rfl), by first | rfl | (rw [Int.natCast_add]; rfl), HLT.out, by omega, by omega, HF.out⟩ ?_
      unfold stMu
      simp only
      have := HLT.out
      omega
    · have gq4 : decide (0 < z) = false := by simpa using hzz
      go_wp2_with fail
      refine hK.out _ _ _ _ _ _ _ _ _ _ _ _ _ _ _ _ _ _ _ _ _ _ _ _ _ _ _ _ _ _ _ _ _ _ _ _ _ _ _ _ _ _ _ _ _ _ _ _ _ _ _ _ _ _ _ _ _ _ _ _ _ _ _ _ _ _ _ _ _ _ _ _ _ _ _ _ _ _ _ _ _ _ _ _ _ _ _ _ _ _ _ _ _ _ _ _ _ _ _ _ _ _ _ _ _ _ _ _ _ _ _ _ _ _ _ _ _ _ _ _ _ _ _ _ _ _ _ _ _ _ _ _ _ _ _ _ _ _ _ _ _ _ _ _ _ _ _ _ _ _ _ _ _ _ _ _ _ _ _ _ _ _ _ _ _ _ _ _ _ _ _ _ _ _ _ _ _ _ _ _ _ _ _ _ _ _ _ _ _ _ _ _ _ _ _ _ _ ⟨k + 1, nn, cc, l, by first | rfl | (rw [Int.natCast_add]; rfl), by first | rfl | (rw [Int.natCast_add]; rfl), by first | rfl | (rw [Int.natCast_add]; rfl), HLT.out, by omega, by omega, HS.out.more⟩ ?_
      unfold stMu
      simp only
      have := HLT.out
      omega
end Go.Proofs.YtehjlpipnaaifaaDoor.Tl
