/-
  Walks: cochineallaw02.SumsFewer returns true, whatever the two bytes, the two bits, and which bits stay secret (one way of four).
-/
-- KEEP3
import Derived.Test.YtdpoebmahoipbaaSHelp2
import Derived.Test.YtdpoebmahoipbaaSHelp3
namespace Go.Proofs.Ytdpoebmahoipbaa
open Go Go.RowKit

set_option maxRecDepth 100000 in
set_option maxHeartbeats 40000000 in
theorem lfew_3 (va ta vb tb : BitVec 8) (b d : Bool) (i j k m : BitVec 8) (w : World) : Calls Try.prog 8 #[.agg #[.int .u8 (va.toNat : Int), .int .u8 (ta.toNat : Int), .int .u8 (vb.toNat : Int), .int .u8 (tb.toNat : Int), .bool b, .bool true, .bool d, .bool true, .int .u8 (i.toNat : Int), .int .u8 (j.toNat : Int), .int .u8 (k.toNat : Int), .int .u8 (m.toNat : Int)]] w fun e w' =>
    e = .returned (.bool true) ∧ Below w.heap.size w w' := by
  obtain ⟨t1, ht1⟩ : ∃ x, x = ta &&& i := ⟨_, rfl⟩
  obtain ⟨s1, hs1⟩ : ∃ x, x = tb &&& j := ⟨_, rfl⟩
  have q1 : bits .and .u8 (ta.toNat : Int) (i.toNat : Int) = (t1.toNat : Int) := by rw [ht1]; exact U8.and_ ta i
  have q2 : bits .and .u8 (tb.toNat : Int) (j.toNat : Int) = (s1.toNat : Int) := by rw [hs1]; exact U8.and_ tb j
  have q3 : ((k.toNat : Int) % 2 == 1) = U8.oddB k := rfl
  have q4 : ((m.toNat : Int) % 2 == 1) = U8.oddB m := rfl
  have lt : U8.Sub t1 ta := by rw [ht1]; exact U8.sub_and ta i
  have ls : U8.Sub s1 tb := by rw [hs1]; exact U8.sub_and tb j
  clear ht1 hs1
  have lc : (U8.oddB k) = true → true = true := by intro _; rfl
  have le : (U8.oddB m) = true → true = true := by intro _; rfl
  obtain ⟨r1, hr1⟩ : ∃ x, x = U8.addS va t1 vb s1 b (U8.oddB k) d (U8.oddB m) := ⟨_, rfl⟩
  obtain ⟨r2, hr2⟩ : ∃ x, x = U8.addS va ta vb tb b true d true := ⟨_, rfl⟩
  obtain ⟨r3, hr3⟩ : ∃ x, x = U8.subS va t1 vb s1 b (U8.oddB k) d (U8.oddB m) := ⟨_, rfl⟩
  obtain ⟨r4, hr4⟩ : ∃ x, x = U8.subS va ta vb tb b true d true := ⟨_, rfl⟩
  obtain ⟨r5, hr5⟩ : ∃ x, x = U8.cmpS va t1 vb s1 := ⟨_, rfl⟩
  obtain ⟨r6, hr6⟩ : ∃ x, x = U8.cmpS va ta vb tb := ⟨_, rfl⟩
  have K1 : U8.WithS r1 r2 := by rw [hr1, hr2]; exact U8.few_add lt ls lc le
  have K2 : U8.WithS r3 r4 := by rw [hr3, hr4]; exact U8.few_sub lt ls lc le
  have K3 : U8.WithS r5 r6 := by rw [hr5, hr6]; exact U8.few_cmp lt ls
  have HK1 := Mem.hide K1
  have HK2 := Mem.hide K2
  have HK3 := Mem.hide K3
  clear lt ls lc le K1 K2 K3
  have Hr1 := Mem.hide hr1
  have Hr2 := Mem.hide hr2
  have Hr3 := Mem.hide hr3
  have Hr4 := Mem.hide hr4
  have Hr5 := Mem.hide hr5
  have Hr6 := Mem.hide hr6
  clear hr1 hr2 hr3 hr4 hr5 hr6
  go_enter Try.func8, Try.ntmps8
  go_wp2_with fail
  go_region_held3 (fun w' => w'.cell? ⟨w.heap.size, 0, none⟩ = some (.int .u8 (va.toNat : Int)) ∧ w'.cell? ⟨w.heap.size, 1, none⟩ = some (.int .u8 (ta.toNat : Int)) ∧ w'.cell? ⟨w.heap.size, 2, none⟩ = some (.int .u8 (vb.toNat : Int)) ∧ w'.cell? ⟨w.heap.size, 3, none⟩ = some (.int .u8 (tb.toNat : Int)) ∧ w'.cell? ⟨w.heap.size, 4, none⟩ = some (.bool b) ∧ w'.cell? ⟨w.heap.size, 5, none⟩ = some (.bool true) ∧ w'.cell? ⟨w.heap.size, 6, none⟩ = some (.bool d) ∧ w'.cell? ⟨w.heap.size, 7, none⟩ = some (.bool true) ∧ w'.cell? ⟨w.heap.size, 8, none⟩ = some (.int .u8 (i.toNat : Int)) ∧ w'.cell? ⟨w.heap.size, 9, none⟩ = some (.int .u8 (j.toNat : Int)) ∧ w'.cell? ⟨w.heap.size, 10, none⟩ = some (.int .u8 (k.toNat : Int)) ∧ w'.cell? ⟨w.heap.size, 11, none⟩ = some (.int .u8 (m.toNat : Int)) ∧ w'.cell? ⟨w.heap.size + 1, 0, none⟩ = some (.int .u8 (va.toNat : Int)) ∧ w'.cell? ⟨w.heap.size + 1, 1, none⟩ = some (.int .u8 (t1.toNat : Int)) ∧ w'.cell? ⟨w.heap.size + 1 + 1, 0, none⟩ = some (.int .u8 (vb.toNat : Int)) ∧ w'.cell? ⟨w.heap.size + 1 + 1, 1, none⟩ = some (.int .u8 (s1.toNat : Int)) ∧ w'.cell? ⟨w.heap.size + 1 + 1 + 1, 0, none⟩ = some (.bool b) ∧ w'.cell? ⟨w.heap.size + 1 + 1 + 1, 1, none⟩ = some (.bool (U8.oddB k)) ∧ w'.cell? ⟨w.heap.size + 1 + 1 + 1 + 1, 0, none⟩ = some (.bool d) ∧ w'.cell? ⟨w.heap.size + 1 + 1 + 1 + 1, 1, none⟩ = some (.bool (U8.oddB m)) ∧ Below w.heap.size w w') ((go_split_ands; (repeat' with_reducible apply And.intro) <;> first | with_reducible assumption | ((repeat (first | with_reducible assumption | with_reducible exact Below.refl _ _ | with_reducible exact Mem.vsome ‹_› | ((with_reducible refine Mem.vnew ?_ ?_) <;> first | rfl | (simp; done)) | ((with_reducible refine Mem.cnew ?_ ?_) <;> first | rfl | (simp; done)) | ((with_reducible refine Mem.znew ?_) <;> first | rfl | (simp; done)) | with_reducible refine Mem.vdrew ?_ | with_reducible refine Mem.valloc _ ?_ | with_reducible refine Mem.vbelow ‹_› ?_ | with_reducible refine Mem.vset ?_ | with_reducible refine Mem.cdrew ?_ | with_reducible refine Mem.calloc _ ?_ | with_reducible refine Mem.bdrew ?_ | with_reducible refine Mem.cbelow ‹_› ?_ | with_reducible refine Mem.zdrew ?_ | with_reducible refine Mem.zalloc _ ?_ ?_ | with_reducible refine Mem.zbelow ‹_› ?_ ?_ | with_reducible refine Mem.zset ?_ | (with_reducible refine Mem.cset ?_ ?_; rotate_left; focus (first | (simp; done) | (simp; omega))) | (with_reducible refine Mem.balloc ?_ ?_ _; rotate_left; focus (first | (simp; done) | (simp; omega))) | (with_reducible refine Mem.bset ?_ ?_ _; rotate_left; focus (first | (simp; done) | (simp; omega))) | (with_reducible refine Mem.bbelow ?_ ?_ ‹_›; rotate_left; focus (first | (simp; done) | (simp; omega))))); done) | (simp [go_sem]; done) | (with_reducible refine Mem.cbelow ‹_› ?_; simp [go_sem, *]; done) | (with_reducible refine Mem.vbelow ‹_› (Mem.vof ?_); simp [go_sem]; done) | ((with_reducible refine Mem.zbelow ‹_› (Mem.vof ?_) ?_) <;> (simp [go_sem]; done)) | (simp [go_sem, *]; done)))
    (first | (go_at_call 12; first | ((with_reducible refine (add_any va t1 vb s1 b (U8.oddB k) d (U8.oddB m) _).mono ?_); rw [← Hr1.out]; rintro e w' ⟨rfl, hbb⟩) | ((with_reducible refine (add_any va ta vb tb b true d true _).mono ?_); rw [← Hr2.out]; rintro e w' ⟨rfl, hbb⟩)) | (go_at_call 15; first | ((with_reducible refine (sub_any va t1 vb s1 b (U8.oddB k) d (U8.oddB m) _).mono ?_); rw [← Hr3.out]; rintro e w' ⟨rfl, hbb⟩) | ((with_reducible refine (sub_any va ta vb tb b true d true _).mono ?_); rw [← Hr4.out]; rintro e w' ⟨rfl, hbb⟩)) | (go_at_call 20; first | ((with_reducible refine (cmp_any va t1 vb s1 _).mono ?_); rw [← Hr5.out]; rintro e w' ⟨rfl, hbb⟩) | ((with_reducible refine (cmp_any va ta vb tb _).mono ?_); rw [← Hr6.out]; rintro e w' ⟨rfl, hbb⟩)) | (go_at_call 19; first | ((with_reducible refine (withs_any r1 r2 HK1.out _).mono ?_); rintro e w' ⟨rfl, hbb⟩) | ((with_reducible refine (withs_any r3 r4 HK2.out _).mono ?_); rintro e w' ⟨rfl, hbb⟩) | ((with_reducible refine (withs_any r5 r6 HK3.out _).mono ?_); rintro e w' ⟨rfl, hbb⟩)) | (go_at_call 14; first | ((with_reducible refine (awake_any _).mono ?_); rintro e w' ⟨rfl, hbb⟩)))
  go_split_ands
  go_wp2
  go_ret
  exact ⟨rfl, by assumption⟩
end Go.Proofs.Ytdpoebmahoipbaa
