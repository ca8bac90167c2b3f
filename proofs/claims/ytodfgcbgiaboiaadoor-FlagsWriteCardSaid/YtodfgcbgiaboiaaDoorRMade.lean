/-
  Walks: what cochinealref01.Made returns.
-/
import Derived.Test.YtodfgcbgiaboiaaDoorRef
import Derived.Test.YtodfgcbgiaboiaaDoorMem3
import Derived.Test.YtodfgcbgiaboiaaDoorNum4
namespace Go.Proofs.YtodfgcbgiaboiaaDoor
open Go Go.RowKit
theorem pow_0 (w : World) : Calls Tryd.prog 40 #[.int .i64 0] w fun e w' => e = .returned (.int .i64 (U8.pw 0)) ∧ w = w' := pow_any 0 (by decide) w
theorem pow_1 (w : World) : Calls Tryd.prog 40 #[.int .i64 1] w fun e w' => e = .returned (.int .i64 (U8.pw 1)) ∧ w = w' := pow_any 1 (by decide) w
theorem pow_2 (w : World) : Calls Tryd.prog 40 #[.int .i64 2] w fun e w' => e = .returned (.int .i64 (U8.pw 2)) ∧ w = w' := pow_any 2 (by decide) w
theorem pow_3 (w : World) : Calls Tryd.prog 40 #[.int .i64 3] w fun e w' => e = .returned (.int .i64 (U8.pw 3)) ∧ w = w' := pow_any 3 (by decide) w
theorem pow_4 (w : World) : Calls Tryd.prog 40 #[.int .i64 4] w fun e w' => e = .returned (.int .i64 (U8.pw 4)) ∧ w = w' := pow_any 4 (by decide) w
theorem pow_5 (w : World) : Calls Tryd.prog 40 #[.int .i64 5] w fun e w' => e = .returned (.int .i64 (U8.pw 5)) ∧ w = w' := pow_any 5 (by decide) w
theorem pow_6 (w : World) : Calls Tryd.prog 40 #[.int .i64 6] w fun e w' => e = .returned (.int .i64 (U8.pw 6)) ∧ w = w' := pow_any 6 (by decide) w
theorem pow_7 (w : World) : Calls Tryd.prog 40 #[.int .i64 7] w fun e w' => e = .returned (.int .i64 (U8.pw 7)) ∧ w = w' := pow_any 7 (by decide) w
theorem le8 (j : Nat) (h : j ≤ 8) : j = 0 ∨ j = 1 ∨ j = 2 ∨ j = 3 ∨ j = 4 ∨ j = 5 ∨ j = 6 ∨ j = 7 ∨ j = 8 := by omega

set_option maxRecDepth 100000 in
set_option maxHeartbeats 16000000 in
theorem made_core (b0 s0 b1 s1 b2 s2 b3 s3 b4 s4 b5 s5 b6 s6 b7 s7 : Bool) (X Y : BitVec 8) (hX0 : Hid (U8.bitB X 0 = b0)) (hY0 : Hid (U8.bitB Y 0 = s0)) (hX1 : Hid (U8.bitB X 1 = b1)) (hY1 : Hid (U8.bitB Y 1 = s1)) (hX2 : Hid (U8.bitB X 2 = b2)) (hY2 : Hid (U8.bitB Y 2 = s2)) (hX3 : Hid (U8.bitB X 3 = b3)) (hY3 : Hid (U8.bitB Y 3 = s3)) (hX4 : Hid (U8.bitB X 4 = b4)) (hY4 : Hid (U8.bitB Y 4 = s4)) (hX5 : Hid (U8.bitB X 5 = b5)) (hY5 : Hid (U8.bitB Y 5 = s5)) (hX6 : Hid (U8.bitB X 6 = b6)) (hY6 : Hid (U8.bitB Y 6 = s6)) (hX7 : Hid (U8.bitB X 7 = b7)) (hY7 : Hid (U8.bitB Y 7 = s7)) (w : World) : Calls Tryd.prog 32 #[.agg #[.bool b0, .bool s0, .bool b1, .bool s1, .bool b2, .bool s2, .bool b3, .bool s3, .bool b4, .bool s4, .bool b5, .bool s5, .bool b6, .bool s6, .bool b7, .bool s7]] w fun e w' =>
    e = .returned (.agg #[.int .u8 (X.toNat : Int), .int .u8 (Y.toNat : Int)]) ∧ Below w.heap.size w w' := by
  go_enter Tryd.func32, Tryd.ntmps32
  go_wp2_with fail
  go_loop [3, 4, 5] (fun a b i => ∃ j : Nat, j ≤ 8 ∧ i = .int .i64 j ∧ a = .int .i64 (U8.low (X) j) ∧ b = .int .i64 (U8.low (Y) j)) (fun _ _ i => 8 - (intOf i).toNat)
  case atStart => exact ⟨0, by omega, rfl, by rw [U8.low_zero], by rw [U8.low_zero]⟩
  case round =>
    obtain ⟨j, hj, rfl, rfl, rfl⟩ := hrel
    rcases le8 j hj with rfl | rfl | rfl | rfl | rfl | rfl | rfl | rfl | rfl
    · have hl1 : b0 = true → U8.low X 1 = U8.low X 0 + U8.pw 0 := fun h => U8.low_yes _ 0 (by decide) (hX0.out.trans h)
      have hl0 : b0 = false → U8.low X 1 = U8.low X 0 := fun h => U8.low_no _ 0 (by decide) (hX0.out.trans h)
      have ht1 : s0 = true → U8.low Y 1 = U8.low Y 0 + U8.pw 0 := fun h => U8.low_yes _ 0 (by decide) (hY0.out.trans h)
      have ht0 : s0 = false → U8.low Y 1 = U8.low Y 0 := fun h => U8.low_no _ 0 (by decide) (hY0.out.trans h)
      have H1 := Mem.hide hl1
      have H0 := Mem.hide hl0
      have T1 := Mem.hide ht1
      have T0 := Mem.hide ht0
      clear hl1 hl0 ht1 ht0
      obtain ⟨hb1, hb2⟩ := U8.low_bd X 0
      obtain ⟨hb3, hb4⟩ := U8.low_bd Y 0
      obtain ⟨hp1, hp2⟩ := U8.pw_bd 0 (by decide)
      cases h1 : b0 <;> cases h2 : s0
      all_goals
        go_wp2_with (go_at_call 40; refine (pow_0 _).mono ?_; rintro e w' ⟨rfl, rfl⟩)
        go_round
        case rel => exact ⟨1, by omega, rfl, by first | rw [H1.out h1] | rw [H0.out h1], by first | rw [T1.out h2] | rw [T0.out h2]⟩
        case measure => simp [intOf]
    · have hl1 : b1 = true → U8.low X 2 = U8.low X 1 + U8.pw 1 := fun h => U8.low_yes _ 1 (by decide) (hX1.out.trans h)
      have hl0 : b1 = false → U8.low X 2 = U8.low X 1 := fun h => U8.low_no _ 1 (by decide) (hX1.out.trans h)
      have ht1 : s1 = true → U8.low Y 2 = U8.low Y 1 + U8.pw 1 := fun h => U8.low_yes _ 1 (by decide) (hY1.out.trans h)
      have ht0 : s1 = false → U8.low Y 2 = U8.low Y 1 := fun h => U8.low_no _ 1 (by decide) (hY1.out.trans h)
      have H1 := Mem.hide hl1
      have H0 := Mem.hide hl0
      have T1 := Mem.hide ht1
      have T0 := Mem.hide ht0
      clear hl1 hl0 ht1 ht0
      obtain ⟨hb1, hb2⟩ := U8.low_bd X 1
      obtain ⟨hb3, hb4⟩ := U8.low_bd Y 1
      obtain ⟨hp1, hp2⟩ := U8.pw_bd 1 (by decide)
      cases h1 : b1 <;> cases h2 : s1
      all_goals
        go_wp2_with (go_at_call 40; refine (pow_1 _).mono ?_; rintro e w' ⟨rfl, rfl⟩)
        go_round
        case rel => exact ⟨2, by omega, rfl, by first | rw [H1.out h1] | rw [H0.out h1], by first | rw [T1.out h2] | rw [T0.out h2]⟩
        case measure => simp [intOf]
    · have hl1 : b2 = true → U8.low X 3 = U8.low X 2 + U8.pw 2 := fun h => U8.low_yes _ 2 (by decide) (hX2.out.trans h)
      have hl0 : b2 = false → U8.low X 3 = U8.low X 2 := fun h => U8.low_no _ 2 (by decide) (hX2.out.trans h)
      have ht1 : s2 = true → U8.low Y 3 = U8.low Y 2 + U8.pw 2 := fun h => U8.low_yes _ 2 (by decide) (hY2.out.trans h)
      have ht0 : s2 = false → U8.low Y 3 = U8.low Y 2 := fun h => U8.low_no _ 2 (by decide) (hY2.out.trans h)
      have H1 := Mem.hide hl1
      have H0 := Mem.hide hl0
      have T1 := Mem.hide ht1
      have T0 := Mem.hide ht0
      clear hl1 hl0 ht1 ht0
      obtain ⟨hb1, hb2⟩ := U8.low_bd X 2
      obtain ⟨hb3, hb4⟩ := U8.low_bd Y 2
      obtain ⟨hp1, hp2⟩ := U8.pw_bd 2 (by decide)
      cases h1 : b2 <;> cases h2 : s2
      all_goals
        go_wp2_with (go_at_call 40; refine (pow_2 _).mono ?_; rintro e w' ⟨rfl, rfl⟩)
        go_round
        case rel => exact ⟨3, by omega, rfl, by first | rw [H1.out h1] | rw [H0.out h1], by first | rw [T1.out h2] | rw [T0.out h2]⟩
        case measure => simp [intOf]
    · have hl1 : b3 = true → U8.low X 4 = U8.low X 3 + U8.pw 3 := fun h => U8.low_yes _ 3 (by decide) (hX3.out.trans h)
      have hl0 : b3 = false → U8.low X 4 = U8.low X 3 := fun h => U8.low_no _ 3 (by decide) (hX3.out.trans h)
      have ht1 : s3 = true → U8.low Y 4 = U8.low Y 3 + U8.pw 3 := fun h => U8.low_yes _ 3 (by decide) (hY3.out.trans h)
      have ht0 : s3 = false → U8.low Y 4 = U8.low Y 3 := fun h => U8.low_no _ 3 (by decide) (hY3.out.trans h)
      have H1 := Mem.hide hl1
      have H0 := Mem.hide hl0
      have T1 := Mem.hide ht1
      have T0 := Mem.hide ht0
      clear hl1 hl0 ht1 ht0
      obtain ⟨hb1, hb2⟩ := U8.low_bd X 3
      obtain ⟨hb3, hb4⟩ := U8.low_bd Y 3
      obtain ⟨hp1, hp2⟩ := U8.pw_bd 3 (by decide)
      cases h1 : b3 <;> cases h2 : s3
      all_goals
        go_wp2_with (go_at_call 40; refine (pow_3 _).mono ?_; rintro e w' ⟨rfl, rfl⟩)
        go_round
        case rel => exact ⟨4, by omega, rfl, by first | rw [H1.out h1] | rw [H0.out h1], by first | rw [T1.out h2] | rw [T0.out h2]⟩
        case measure => simp [intOf]
    · have hl1 : b4 = true → U8.low X 5 = U8.low X 4 + U8.pw 4 := fun h => U8.low_yes _ 4 (by decide) (hX4.out.trans h)
      have hl0 : b4 = false → U8.low X 5 = U8.low X 4 := fun h => U8.low_no _ 4 (by decide) (hX4.out.trans h)
      have ht1 : s4 = true → U8.low Y 5 = U8.low Y 4 + U8.pw 4 := fun h => U8.low_yes _ 4 (by decide) (hY4.out.trans h)
      have ht0 : s4 = false → U8.low Y 5 = U8.low Y 4 := fun h => U8.low_no _ 4 (by decide) (hY4.out.trans h)
      have H1 := Mem.hide hl1
      have H0 := Mem.hide hl0
      have T1 := Mem.hide ht1
      have T0 := Mem.hide ht0
      clear hl1 hl0 ht1 ht0
      obtain ⟨hb1, hb2⟩ := U8.low_bd X 4
      obtain ⟨hb3, hb4⟩ := U8.low_bd Y 4
      obtain ⟨hp1, hp2⟩ := U8.pw_bd 4 (by decide)
      cases h1 : b4 <;> cases h2 : s4
      all_goals
        go_wp2_with (go_at_call 40; refine (pow_4 _).mono ?_; rintro e w' ⟨rfl, rfl⟩)
        go_round
        case rel => exact ⟨5, by omega, rfl, by first | rw [H1.out h1] | rw [H0.out h1], by first | rw [T1.out h2] | rw [T0.out h2]⟩
        case measure => simp [intOf]
    · have hl1 : b5 = true → U8.low X 6 = U8.low X 5 + U8.pw 5 := fun h => U8.low_yes _ 5 (by decide) (hX5.out.trans h)
      have hl0 : b5 = false → U8.low X 6 = U8.low X 5 := fun h => U8.low_no _ 5 (by decide) (hX5.out.trans h)
      have ht1 : s5 = true → U8.low Y 6 = U8.low Y 5 + U8.pw 5 := fun h => U8.low_yes _ 5 (by decide) (hY5.out.trans h)
      have ht0 : s5 = false → U8.low Y 6 = U8.low Y 5 := fun h => U8.low_no _ 5 (by decide) (hY5.out.trans h)
      have H1 := Mem.hide hl1
      have H0 := Mem.hide hl0
      have T1 := Mem.hide ht1
      have T0 := Mem.hide ht0
      clear hl1 hl0 ht1 ht0
      obtain ⟨hb1, hb2⟩ := U8.low_bd X 5
      obtain ⟨hb3, hb4⟩ := U8.low_bd Y 5
      obtain ⟨hp1, hp2⟩ := U8.pw_bd 5 (by decide)
      cases h1 : b5 <;> cases h2 : s5
      all_goals
        go_wp2_with (go_at_call 40; refine (pow_5 _).mono ?_; rintro e w' ⟨rfl, rfl⟩)
        go_round
        case rel => exact ⟨6, by omega, rfl, by first | rw [H1.out h1] | rw [H0.out h1], by first | rw [T1.out h2] | rw [T0.out h2]⟩
        case measure => simp [intOf]
    · have hl1 : b6 = true → U8.low X 7 = U8.low X 6 + U8.pw 6 := fun h => U8.low_yes _ 6 (by decide) (hX6.out.trans h)
      have hl0 : b6 = false → U8.low X 7 = U8.low X 6 := fun h => U8.low_no _ 6 (by decide) (hX6.out.trans h)
      have ht1 : s6 = true → U8.low Y 7 = U8.low Y 6 + U8.pw 6 := fun h => U8.low_yes _ 6 (by decide) (hY6.out.trans h)
      have ht0 : s6 = false → U8.low Y 7 = U8.low Y 6 := fun h => U8.low_no _ 6 (by decide) (hY6.out.trans h)
      have H1 := Mem.hide hl1
      have H0 := Mem.hide hl0
      have T1 := Mem.hide ht1
      have T0 := Mem.hide ht0
      clear hl1 hl0 ht1 ht0
      obtain ⟨hb1, hb2⟩ := U8.low_bd X 6
      obtain ⟨hb3, hb4⟩ := U8.low_bd Y 6
      obtain ⟨hp1, hp2⟩ := U8.pw_bd 6 (by decide)
      cases h1 : b6 <;> cases h2 : s6
      all_goals
        go_wp2_with (go_at_call 40; refine (pow_6 _).mono ?_; rintro e w' ⟨rfl, rfl⟩)
        go_round
        case rel => exact ⟨7, by omega, rfl, by first | rw [H1.out h1] | rw [H0.out h1], by first | rw [T1.out h2] | rw [T0.out h2]⟩
        case measure => simp [intOf]
    · have hl1 : b7 = true → U8.low X 8 = U8.low X 7 + U8.pw 7 := fun h => U8.low_yes _ 7 (by decide) (hX7.out.trans h)
      have hl0 : b7 = false → U8.low X 8 = U8.low X 7 := fun h => U8.low_no _ 7 (by decide) (hX7.out.trans h)
      have ht1 : s7 = true → U8.low Y 8 = U8.low Y 7 + U8.pw 7 := fun h => U8.low_yes _ 7 (by decide) (hY7.out.trans h)
      have ht0 : s7 = false → U8.low Y 8 = U8.low Y 7 := fun h => U8.low_no _ 7 (by decide) (hY7.out.trans h)
      have H1 := Mem.hide hl1
      have H0 := Mem.hide hl0
      have T1 := Mem.hide ht1
      have T0 := Mem.hide ht0
      clear hl1 hl0 ht1 ht0
      obtain ⟨hb1, hb2⟩ := U8.low_bd X 7
      obtain ⟨hb3, hb4⟩ := U8.low_bd Y 7
      obtain ⟨hp1, hp2⟩ := U8.pw_bd 7 (by decide)
      cases h1 : b7 <;> cases h2 : s7
      all_goals
        go_wp2_with (go_at_call 40; refine (pow_7 _).mono ?_; rintro e w' ⟨rfl, rfl⟩)
        go_round
        case rel => exact ⟨8, by omega, rfl, by first | rw [H1.out h1] | rw [H0.out h1], by first | rw [T1.out h2] | rw [T0.out h2]⟩
        case measure => simp [intOf]
    · have e1 := U8.low_eight (X)
      have e2 := U8.low_eight (Y)
      obtain ⟨hb1, hb2⟩ := U8.low_bd (X) 8
      obtain ⟨hb3, hb4⟩ := U8.low_bd (Y) 8
      go_wp2
      refine bodyPost_ret (v := .agg #[.int .u8 (X.toNat : Int), .int .u8 (Y.toNat : Int)]) (by simp [results, Tryd.results32, go_sem]) rfl ⟨rfl, ?_⟩
      exact Mem.balloc (Mem.balloc (Below.refl _ _) (Nat.le_refl _) _) (Nat.le_refl _) _

theorem made_any (b0 s0 b1 s1 b2 s2 b3 s3 b4 s4 b5 s5 b6 s6 b7 s7 : Bool) (w : World) : Calls Tryd.prog 32 #[.agg #[.bool b0, .bool s0, .bool b1, .bool s1, .bool b2, .bool s2, .bool b3, .bool s3, .bool b4, .bool s4, .bool b5, .bool s5, .bool b6, .bool s6, .bool b7, .bool s7]] w fun e w' =>
    e = .returned (.agg #[.int .u8 ((U8.mk b0 b1 b2 b3 b4 b5 b6 b7).toNat : Int), .int .u8 ((U8.mk s0 s1 s2 s3 s4 s5 s6 s7).toNat : Int)]) ∧ Below w.heap.size w w' :=
  made_core b0 s0 b1 s1 b2 s2 b3 s3 b4 s4 b5 s5 b6 s6 b7 s7 _ _ (Mem.hide (U8.mk_0 ..)) (Mem.hide (U8.mk_0 ..)) (Mem.hide (U8.mk_1 ..)) (Mem.hide (U8.mk_1 ..)) (Mem.hide (U8.mk_2 ..)) (Mem.hide (U8.mk_2 ..)) (Mem.hide (U8.mk_3 ..)) (Mem.hide (U8.mk_3 ..)) (Mem.hide (U8.mk_4 ..)) (Mem.hide (U8.mk_4 ..)) (Mem.hide (U8.mk_5 ..)) (Mem.hide (U8.mk_5 ..)) (Mem.hide (U8.mk_6 ..)) (Mem.hide (U8.mk_6 ..)) (Mem.hide (U8.mk_7 ..)) (Mem.hide (U8.mk_7 ..)) w
end Go.Proofs.YtodfgcbgiaboiaaDoor
