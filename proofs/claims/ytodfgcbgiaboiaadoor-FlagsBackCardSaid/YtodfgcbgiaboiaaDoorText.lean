/-
  Walks: flags.Text: the letters of a register.
-/
-- KEEP2
import Derived.Test.YtodfgcbgiaboiaaDoorFlags
import Derived.Test.YtodfgcbgiaboiaaDoorShelf
import Derived.Test.YtodfgcbgiaboiaaDoorMem4
import Derived.BigCall
namespace Go.Proofs.YtodfgcbgiaboiaaDoor
open Go Go.RowKit

namespace U8
def letters : ByteArray := ⟨#[78, 86, 79, 66, 68, 73, 90, 67]⟩
def letter (k : Nat) : UInt8 := letters.data.toList.getD k 0
/-- A register's letter number k. -/
def txtAt (v t : BitVec 8) (k : Nat) : UInt8 := if bitB t (7 - k) = true then 63 else if bitB v (7 - k) = true then letter k else letter k + 32
def txt (v t : BitVec 8) (k : Nat) : List UInt8 := (List.range k).map (txtAt v t)
theorem txt_succ (v t : BitVec 8) (k : Nat) : txt v t (k + 1) = txt v t k ++ [txtAt v t k] := by unfold txt; rw [List.range_succ, List.map_append]; rfl
theorem txt_len (v t : BitVec 8) (k : Nat) : (txt v t k).length = k := by unfold txt; simp
end U8

namespace Mem
theorem bat_below {T e : TypeId} {B b : Nat} {p : Value} {bs : List Value} {w w' : World} (h : Lib.BuilderAtF T e B b p bs w) (k : Below w.heap.size w w') : Lib.BuilderAtF T e B b p bs w' := by
  have l := h.lt
  obtain ⟨a1, v, a2, a3, a4⟩ := h
  refine ⟨a1, v, ?_, a3.kept (row := none) ⟨k.os, k.tape, k.output, k.size, fun j hj _ => k.block j hj⟩ (Classical.em _), a4⟩
  rw [k.block b l]; exact a2
theorem bui_below {T e : TypeId} {B b : Nat} {bs : List Value} {w w' : World} (h : Lib.IsBuilderF T e B b bs w) (k : Below w.heap.size w w') : Lib.IsBuilderF T e B b bs w' := by
  rcases h with h | h
  · exact .inl (bat_below h k)
  · exact .inr (bat_below h k)
end Mem
theorem get_0 (v t : BitVec 8) (w : World) : Calls Tryd.prog 16 #[.agg #[.int .u8 (v.toNat : Int), .int .u8 (t.toNat : Int)], .int .i64 0] w fun e w' => e = .returned (.agg #[.bool (U8.bitB v 0), .bool (U8.bitB t 0)]) ∧ Below w.heap.size w w' := get_any v t 0 (by decide) w
theorem get_1 (v t : BitVec 8) (w : World) : Calls Tryd.prog 16 #[.agg #[.int .u8 (v.toNat : Int), .int .u8 (t.toNat : Int)], .int .i64 1] w fun e w' => e = .returned (.agg #[.bool (U8.bitB v 1), .bool (U8.bitB t 1)]) ∧ Below w.heap.size w w' := get_any v t 1 (by decide) w
theorem get_2 (v t : BitVec 8) (w : World) : Calls Tryd.prog 16 #[.agg #[.int .u8 (v.toNat : Int), .int .u8 (t.toNat : Int)], .int .i64 2] w fun e w' => e = .returned (.agg #[.bool (U8.bitB v 2), .bool (U8.bitB t 2)]) ∧ Below w.heap.size w w' := get_any v t 2 (by decide) w
theorem get_3 (v t : BitVec 8) (w : World) : Calls Tryd.prog 16 #[.agg #[.int .u8 (v.toNat : Int), .int .u8 (t.toNat : Int)], .int .i64 3] w fun e w' => e = .returned (.agg #[.bool (U8.bitB v 3), .bool (U8.bitB t 3)]) ∧ Below w.heap.size w w' := get_any v t 3 (by decide) w
theorem get_4 (v t : BitVec 8) (w : World) : Calls Tryd.prog 16 #[.agg #[.int .u8 (v.toNat : Int), .int .u8 (t.toNat : Int)], .int .i64 4] w fun e w' => e = .returned (.agg #[.bool (U8.bitB v 4), .bool (U8.bitB t 4)]) ∧ Below w.heap.size w w' := get_any v t 4 (by decide) w
theorem get_5 (v t : BitVec 8) (w : World) : Calls Tryd.prog 16 #[.agg #[.int .u8 (v.toNat : Int), .int .u8 (t.toNat : Int)], .int .i64 5] w fun e w' => e = .returned (.agg #[.bool (U8.bitB v 5), .bool (U8.bitB t 5)]) ∧ Below w.heap.size w w' := get_any v t 5 (by decide) w
theorem get_6 (v t : BitVec 8) (w : World) : Calls Tryd.prog 16 #[.agg #[.int .u8 (v.toNat : Int), .int .u8 (t.toNat : Int)], .int .i64 6] w fun e w' => e = .returned (.agg #[.bool (U8.bitB v 6), .bool (U8.bitB t 6)]) ∧ Below w.heap.size w w' := get_any v t 6 (by decide) w
theorem get_7 (v t : BitVec 8) (w : World) : Calls Tryd.prog 16 #[.agg #[.int .u8 (v.toNat : Int), .int .u8 (t.toNat : Int)], .int .i64 7] w fun e w' => e = .returned (.agg #[.bool (U8.bitB v 7), .bool (U8.bitB t 7)]) ∧ Below w.heap.size w w' := get_any v t 7 (by decide) w
theorem low_of (x : UInt8) (h : x.toNat < 128) (w : World) : Calls Tryd.prog 24 #[.string ⟨#[x]⟩] w fun e w' => e = .returned (.string ⟨(Lib.toLowerA [x]).toArray⟩) ∧ Below w.heap.size w w' :=
  Tryd.strings_ToLower_ascii ⟨#[x]⟩ w (by show 1 ≤ 140737488355328; decide) (fun j b hb => by
    cases j with
    | zero => simp at hb; rw [← hb]; exact h
    | succ j => simp at hb)

set_option maxHeartbeats 8000000 in
set_option maxRecDepth 100000 in
theorem text_any (v t : BitVec 8) (w : World) : Calls Tryd.prog 11 #[.agg #[.int .u8 (v.toNat : Int), .int .u8 (t.toNat : Int)]] w fun e w' => e = .returned (.string ⟨(U8.txt v t 8).toArray⟩) ∧ Below w.heap.size w w' := by
  go_enter Tryd.func11, Tryd.ntmps11
  go_wp2
  go_loopw [] (fun wr => ∃ pos : Nat, pos ≤ 8 ∧ Lib.IsBuilderF 50 5 (w.heap.size + 1) (w.heap.size + 1) (Lib.byteCells (U8.txt v t pos)) wr ∧ wr.heap[w.heap.size + 1 + 1]? = some (.stringIter U8.letters pos) ∧ Below w.heap.size w wr ∧ wr.cell? ⟨w.heap.size, 0, none⟩ = some (.int .u8 (v.toNat : Int)) ∧ wr.cell? ⟨w.heap.size, 1, none⟩ = some (.int .u8 (t.toNat : Int))) (fun wr => 8 - wr.iterPos (w.heap.size + 1 + 1))
  case atStart =>
    have h0 := (Lib.IsBuilderF.of (Lib.fresh_isBuilder 50 5 (w.alloc (.cells #[.int .u8 (v.toNat : Int), .int .u8 (t.toNat : Int)] 23)))).alloc (.stringIter U8.letters 0)
    rw [show (w.alloc (.cells #[.int .u8 (v.toNat : Int), .int .u8 (t.toNat : Int)] 23)).heap.size = w.heap.size + 1 from by simp] at h0
    refine ⟨0, by omega, h0, ?_, ?_, ?_, ?_⟩
    · have := World.iter_heap ((w.alloc (.cells #[.int .u8 (v.toNat : Int), .int .u8 (t.toNat : Int)] 23)).alloc (.cells #[.pointer none, .slice none 0 0] 50)) U8.letters 0
      simp at this
      exact this
    · exact (((Below.refl _ w).alloc (Nat.le_refl _) _).alloc (by simp) _).alloc (by simp; omega) _
    · exact Mem.calloc (.stringIter U8.letters 0) (Mem.calloc _ (Mem.cnew rfl rfl))
    · exact Mem.calloc (.stringIter U8.letters 0) (Mem.calloc _ (Mem.cnew rfl rfl))
  case round =>
    obtain ⟨pos, hp8, hI, hit, hbw, hc0, hc1⟩ := hrel
    have hsz : w.heap.size + 1 + 1 < wr.heap.size := (Array.getElem?_eq_some_iff.1 hit).1
    by_cases hp : pos < 8
    · have hps : pos < U8.letters.size := hp
      have hI2 := hI.iterAt hit (pos + 1)
      have hit2 := Lib.iterAt_heap wr (w.heap.size + 1 + 1) U8.letters pos (pos + 1) hit
      have hbw2 := Lib.below_iterAt hbw (k := w.heap.size + 1 + 1) (by omega) U8.letters (pos + 1)
      have hd0 : (wr.iterAt (w.heap.size + 1 + 1) U8.letters (pos + 1)).cell? ⟨w.heap.size, 0, none⟩ = some (.int .u8 (v.toNat : Int)) := by rw [World.cell?_of_block (Lib.iterAt_other wr _ _ _ _ (by simp; omega))]; exact hc0
      have hd1 : (wr.iterAt (w.heap.size + 1 + 1) U8.letters (pos + 1)).cell? ⟨w.heap.size, 1, none⟩ = some (.int .u8 (t.toNat : Int)) := by rw [World.cell?_of_block (Lib.iterAt_other wr _ _ _ _ (by simp; omega))]; exact hc1
      have hsz2 : w.heap.size + 1 + 1 < (wr.iterAt (w.heap.size + 1 + 1) U8.letters (pos + 1)).heap.size := by rw [Lib.iterAt_size]; exact hsz
      have hnx : ∀ ty, (Instr.next (.pointer (some ⟨w.heap.size + 1 + 1, 0, none⟩)) true ty).run Tryd.prog wr = _ := fun ty => Lib.run_next_any_at wr (w.heap.size + 1 + 1) U8.letters pos ty hit hps
      rcases (by omega : pos = 0 ∨ pos = 1 ∨ pos = 2 ∨ pos = 3 ∨ pos = 4 ∨ pos = 5 ∨ pos = 6 ∨ pos = 7) with rfl | rfl | rfl | rfl | rfl | rfl | rfl | rfl
      · rw [show Utf8.decode U8.letters 0 = (78, 1) from rfl] at hnx
        generalize (wr.iterAt (w.heap.size + 1 + 1) U8.letters (0 + 1)) = W0 at *
        have hen : Utf8.encode 78 = ⟨#[78]⟩ := rfl
        go_wp2_with fail
        refine (get_7 v t _).mono ?_
        cases hv : U8.bitB v 7 <;> cases ht : U8.bitB t 7
        all_goals
          rintro e w1 ⟨rfl, b1⟩
          have hI3 := Mem.bui_below hI2 b1
          have hit3 := (b1.block _ hsz2).trans hit2
          have hb3 := hbw2.trans (b1.mono (by omega))
          have hc3 := Mem.cbelow b1 hd0
          have hd3 := Mem.cbelow b1 hd1
          have hs3 : w.heap.size + 1 + 1 < w1.heap.size := Nat.lt_of_lt_of_le hsz2 b1.size
          clear hI2 hit2 hbw2 hd0 hd1 hsz2 hI hnx hc0 hc1
          go_wp2_with fail
        · refine (low_of 78 (by decide) _).mono ?_
          rintro e w2 ⟨rfl, b2⟩
          have hI4 := Mem.bui_below (hI3.alloc _) b2
          have hit4 := (b2.block _ (by simp; omega)).trans ((Below.heap_alloc w1 _ _ hs3).trans hit3)
          have hb4 := (hb3.alloc (by omega) _).trans (b2.mono (by simp; omega))
          have hc4 := Mem.cbelow b2 (Mem.calloc _ hc3)
          have hd4 := Mem.cbelow b2 (Mem.calloc _ hd3)
          have hs4 : w.heap.size + 1 + 1 < w2.heap.size := Nat.lt_of_lt_of_le (by simp; omega) b2.size
          have ht4 := Mem.cbelow b2 (Mem.cnew (c := #[.bool false, .bool false]) (t := 36) (i := 1) (W := w1) rfl rfl)
          rw [show (⟨(Lib.toLowerA [78]).toArray⟩ : ByteArray) = ⟨#[110]⟩ from rfl]
          go_wp2_with fail
          refine (Tryd.Builder_WriteString_k (w.heap.size + 1) (w.heap.size + 1) _ ⟨#[110]⟩ _ (hI4) (by rw [Lib.byteCells_length, U8.txt_len]; decide) (by omega)).mono ?_
          rintro e W3 ⟨rfl, h3, b3, k3⟩
          go_wp2
          go_roundw
          case rel =>
            refine ⟨0 + 1, by omega, ?_, k3.iter (hit4) (by omega), hb4.trans (b3.mono (by omega)), ?_, ?_⟩
            · rw [U8.txt_succ, Lib.byteCells_append, show U8.txtAt v t 0 = 110 from by unfold U8.txtAt; simp [ht, hv, U8.letter, U8.letters]]; exact Or.inr h3
            · exact (b3.cell (by simp)).trans (hc4)
            · exact (b3.cell (by simp)).trans (hd4)
          case measure =>
            simp only [World.iterPos, k3.iter (hit4) (by omega), hit]
            omega
        · refine (low_of 78 (by decide) _).mono ?_
          rintro e w2 ⟨rfl, b2⟩
          have hI4 := Mem.bui_below (hI3.alloc _) b2
          have hit4 := (b2.block _ (by simp; omega)).trans ((Below.heap_alloc w1 _ _ hs3).trans hit3)
          have hb4 := (hb3.alloc (by omega) _).trans (b2.mono (by simp; omega))
          have hc4 := Mem.cbelow b2 (Mem.calloc _ hc3)
          have hd4 := Mem.cbelow b2 (Mem.calloc _ hd3)
          have hs4 : w.heap.size + 1 + 1 < w2.heap.size := Nat.lt_of_lt_of_le (by simp; omega) b2.size
          have ht4 := Mem.cbelow b2 (Mem.cnew (c := #[.bool false, .bool true]) (t := 36) (i := 1) (W := w1) rfl rfl)
          rw [show (⟨(Lib.toLowerA [78]).toArray⟩ : ByteArray) = ⟨#[110]⟩ from rfl]
          go_wp2_with fail
          refine (Tryd.Builder_WriteString_k (w.heap.size + 1) (w.heap.size + 1) _ ⟨#[63]⟩ _ (hI4) (by rw [Lib.byteCells_length, U8.txt_len]; decide) (by omega)).mono ?_
          rintro e W3 ⟨rfl, h3, b3, k3⟩
          go_wp2
          go_roundw
          case rel =>
            refine ⟨0 + 1, by omega, ?_, k3.iter (hit4) (by omega), hb4.trans (b3.mono (by omega)), ?_, ?_⟩
            · rw [U8.txt_succ, Lib.byteCells_append, show U8.txtAt v t 0 = 63 from by unfold U8.txtAt; simp [ht]]; exact Or.inr h3
            · exact (b3.cell (by simp)).trans (hc4)
            · exact (b3.cell (by simp)).trans (hd4)
          case measure =>
            simp only [World.iterPos, k3.iter (hit4) (by omega), hit]
            omega
        · refine (Tryd.Builder_WriteString_k (w.heap.size + 1) (w.heap.size + 1) _ ⟨#[78]⟩ _ (hI3.alloc _) (by rw [Lib.byteCells_length, U8.txt_len]; decide) (by simp; omega)).mono ?_
          rintro e W3 ⟨rfl, h3, b3, k3⟩
          go_wp2
          go_roundw
          case rel =>
            refine ⟨0 + 1, by omega, ?_, k3.iter ((Below.heap_alloc w1 _ _ hs3).trans hit3) (by omega), (hb3.alloc (by omega) _).trans (b3.mono (by omega)), ?_, ?_⟩
            · rw [U8.txt_succ, Lib.byteCells_append, show U8.txtAt v t 0 = 78 from by unfold U8.txtAt; simp [ht, hv, U8.letter, U8.letters]]; exact Or.inr h3
            · exact (b3.cell (by simp)).trans (Mem.calloc _ hc3)
            · exact (b3.cell (by simp)).trans (Mem.calloc _ hd3)
          case measure =>
            simp only [World.iterPos, k3.iter ((Below.heap_alloc w1 _ _ hs3).trans hit3) (by omega), hit]
            omega
        · refine (Tryd.Builder_WriteString_k (w.heap.size + 1) (w.heap.size + 1) _ ⟨#[63]⟩ _ (hI3.alloc _) (by rw [Lib.byteCells_length, U8.txt_len]; decide) (by simp; omega)).mono ?_
          rintro e W3 ⟨rfl, h3, b3, k3⟩
          go_wp2
          go_roundw
          case rel =>
            refine ⟨0 + 1, by omega, ?_, k3.iter ((Below.heap_alloc w1 _ _ hs3).trans hit3) (by omega), (hb3.alloc (by omega) _).trans (b3.mono (by omega)), ?_, ?_⟩
            · rw [U8.txt_succ, Lib.byteCells_append, show U8.txtAt v t 0 = 63 from by unfold U8.txtAt; simp [ht]]; exact Or.inr h3
            · exact (b3.cell (by simp)).trans (Mem.calloc _ hc3)
            · exact (b3.cell (by simp)).trans (Mem.calloc _ hd3)
          case measure =>
            simp only [World.iterPos, k3.iter ((Below.heap_alloc w1 _ _ hs3).trans hit3) (by omega), hit]
            omega
      · rw [show Utf8.decode U8.letters 1 = (86, 1) from rfl] at hnx
        generalize (wr.iterAt (w.heap.size + 1 + 1) U8.letters (1 + 1)) = W0 at *
        have hen : Utf8.encode 86 = ⟨#[86]⟩ := rfl
        go_wp2_with fail
        refine (get_6 v t _).mono ?_
        cases hv : U8.bitB v 6 <;> cases ht : U8.bitB t 6
        all_goals
          rintro e w1 ⟨rfl, b1⟩
          have hI3 := Mem.bui_below hI2 b1
          have hit3 := (b1.block _ hsz2).trans hit2
          have hb3 := hbw2.trans (b1.mono (by omega))
          have hc3 := Mem.cbelow b1 hd0
          have hd3 := Mem.cbelow b1 hd1
          have hs3 : w.heap.size + 1 + 1 < w1.heap.size := Nat.lt_of_lt_of_le hsz2 b1.size
          clear hI2 hit2 hbw2 hd0 hd1 hsz2 hI hnx hc0 hc1
          go_wp2_with fail
        · refine (low_of 86 (by decide) _).mono ?_
          rintro e w2 ⟨rfl, b2⟩
          have hI4 := Mem.bui_below (hI3.alloc _) b2
          have hit4 := (b2.block _ (by simp; omega)).trans ((Below.heap_alloc w1 _ _ hs3).trans hit3)
          have hb4 := (hb3.alloc (by omega) _).trans (b2.mono (by simp; omega))
          have hc4 := Mem.cbelow b2 (Mem.calloc _ hc3)
          have hd4 := Mem.cbelow b2 (Mem.calloc _ hd3)
          have hs4 : w.heap.size + 1 + 1 < w2.heap.size := Nat.lt_of_lt_of_le (by simp; omega) b2.size
          have ht4 := Mem.cbelow b2 (Mem.cnew (c := #[.bool false, .bool false]) (t := 36) (i := 1) (W := w1) rfl rfl)
          rw [show (⟨(Lib.toLowerA [86]).toArray⟩ : ByteArray) = ⟨#[118]⟩ from rfl]
          go_wp2_with fail
          refine (Tryd.Builder_WriteString_k (w.heap.size + 1) (w.heap.size + 1) _ ⟨#[118]⟩ _ (hI4) (by rw [Lib.byteCells_length, U8.txt_len]; decide) (by omega)).mono ?_
          rintro e W3 ⟨rfl, h3, b3, k3⟩
          go_wp2
          go_roundw
          case rel =>
            refine ⟨1 + 1, by omega, ?_, k3.iter (hit4) (by omega), hb4.trans (b3.mono (by omega)), ?_, ?_⟩
            · rw [U8.txt_succ, Lib.byteCells_append, show U8.txtAt v t 1 = 118 from by unfold U8.txtAt; simp [ht, hv, U8.letter, U8.letters]]; exact Or.inr h3
            · exact (b3.cell (by simp)).trans (hc4)
            · exact (b3.cell (by simp)).trans (hd4)
          case measure =>
            simp only [World.iterPos, k3.iter (hit4) (by omega), hit]
            omega
        · refine (low_of 86 (by decide) _).mono ?_
          rintro e w2 ⟨rfl, b2⟩
          have hI4 := Mem.bui_below (hI3.alloc _) b2
          have hit4 := (b2.block _ (by simp; omega)).trans ((Below.heap_alloc w1 _ _ hs3).trans hit3)
          have hb4 := (hb3.alloc (by omega) _).trans (b2.mono (by simp; omega))
          have hc4 := Mem.cbelow b2 (Mem.calloc _ hc3)
          have hd4 := Mem.cbelow b2 (Mem.calloc _ hd3)
          have hs4 : w.heap.size + 1 + 1 < w2.heap.size := Nat.lt_of_lt_of_le (by simp; omega) b2.size
          have ht4 := Mem.cbelow b2 (Mem.cnew (c := #[.bool false, .bool true]) (t := 36) (i := 1) (W := w1) rfl rfl)
          rw [show (⟨(Lib.toLowerA [86]).toArray⟩ : ByteArray) = ⟨#[118]⟩ from rfl]
          go_wp2_with fail
          refine (Tryd.Builder_WriteString_k (w.heap.size + 1) (w.heap.size + 1) _ ⟨#[63]⟩ _ (hI4) (by rw [Lib.byteCells_length, U8.txt_len]; decide) (by omega)).mono ?_
          rintro e W3 ⟨rfl, h3, b3, k3⟩
          go_wp2
          go_roundw
          case rel =>
            refine ⟨1 + 1, by omega, ?_, k3.iter (hit4) (by omega), hb4.trans (b3.mono (by omega)), ?_, ?_⟩
            · rw [U8.txt_succ, Lib.byteCells_append, show U8.txtAt v t 1 = 63 from by unfold U8.txtAt; simp [ht]]; exact Or.inr h3
            · exact (b3.cell (by simp)).trans (hc4)
            · exact (b3.cell (by simp)).trans (hd4)
          case measure =>
            simp only [World.iterPos, k3.iter (hit4) (by omega), hit]
            omega
        · refine (Tryd.Builder_WriteString_k (w.heap.size + 1) (w.heap.size + 1) _ ⟨#[86]⟩ _ (hI3.alloc _) (by rw [Lib.byteCells_length, U8.txt_len]; decide) (by simp; omega)).mono ?_
          rintro e W3 ⟨rfl, h3, b3, k3⟩
          go_wp2
          go_roundw
          case rel =>
            refine ⟨1 + 1, by omega, ?_, k3.iter ((Below.heap_alloc w1 _ _ hs3).trans hit3) (by omega), (hb3.alloc (by omega) _).trans (b3.mono (by omega)), ?_, ?_⟩
            · rw [U8.txt_succ, Lib.byteCells_append, show U8.txtAt v t 1 = 86 from by unfold U8.txtAt; simp [ht, hv, U8.letter, U8.letters]]; exact Or.inr h3
            · exact (b3.cell (by simp)).trans (Mem.calloc _ hc3)
            · exact (b3.cell (by simp)).trans (Mem.calloc _ hd3)
          case measure =>
            simp only [World.iterPos, k3.iter ((Below.heap_alloc w1 _ _ hs3).trans hit3) (by omega), hit]
            omega
        · refine (Tryd.Builder_WriteString_k (w.heap.size + 1) (w.heap.size + 1) _ ⟨#[63]⟩ _ (hI3.alloc _) (by rw [Lib.byteCells_length, U8.txt_len]; decide) (by simp; omega)).mono ?_
          rintro e W3 ⟨rfl, h3, b3, k3⟩
          go_wp2
          go_roundw
          case rel =>
            refine ⟨1 + 1, by omega, ?_, k3.iter ((Below.heap_alloc w1 _ _ hs3).trans hit3) (by omega), (hb3.alloc (by omega) _).trans (b3.mono (by omega)), ?_, ?_⟩
            · rw [U8.txt_succ, Lib.byteCells_append, show U8.txtAt v t 1 = 63 from by unfold U8.txtAt; simp [ht]]; exact Or.inr h3
            · exact (b3.cell (by simp)).trans (Mem.calloc _ hc3)
            · exact (b3.cell (by simp)).trans (Mem.calloc _ hd3)
          case measure =>
            simp only [World.iterPos, k3.iter ((Below.heap_alloc w1 _ _ hs3).trans hit3) (by omega), hit]
            omega
      · rw [show Utf8.decode U8.letters 2 = (79, 1) from rfl] at hnx
        generalize (wr.iterAt (w.heap.size + 1 + 1) U8.letters (2 + 1)) = W0 at *
        have hen : Utf8.encode 79 = ⟨#[79]⟩ := rfl
        go_wp2_with fail
        refine (get_5 v t _).mono ?_
        cases hv : U8.bitB v 5 <;> cases ht : U8.bitB t 5
        all_goals
          rintro e w1 ⟨rfl, b1⟩
          have hI3 := Mem.bui_below hI2 b1
          have hit3 := (b1.block _ hsz2).trans hit2
          have hb3 := hbw2.trans (b1.mono (by omega))
          have hc3 := Mem.cbelow b1 hd0
          have hd3 := Mem.cbelow b1 hd1
          have hs3 : w.heap.size + 1 + 1 < w1.heap.size := Nat.lt_of_lt_of_le hsz2 b1.size
          clear hI2 hit2 hbw2 hd0 hd1 hsz2 hI hnx hc0 hc1
          go_wp2_with fail
        · refine (low_of 79 (by decide) _).mono ?_
          rintro e w2 ⟨rfl, b2⟩
          have hI4 := Mem.bui_below (hI3.alloc _) b2
          have hit4 := (b2.block _ (by simp; omega)).trans ((Below.heap_alloc w1 _ _ hs3).trans hit3)
          have hb4 := (hb3.alloc (by omega) _).trans (b2.mono (by simp; omega))
          have hc4 := Mem.cbelow b2 (Mem.calloc _ hc3)
          have hd4 := Mem.cbelow b2 (Mem.calloc _ hd3)
          have hs4 : w.heap.size + 1 + 1 < w2.heap.size := Nat.lt_of_lt_of_le (by simp; omega) b2.size
          have ht4 := Mem.cbelow b2 (Mem.cnew (c := #[.bool false, .bool false]) (t := 36) (i := 1) (W := w1) rfl rfl)
          rw [show (⟨(Lib.toLowerA [79]).toArray⟩ : ByteArray) = ⟨#[111]⟩ from rfl]
          go_wp2_with fail
          refine (Tryd.Builder_WriteString_k (w.heap.size + 1) (w.heap.size + 1) _ ⟨#[111]⟩ _ (hI4) (by rw [Lib.byteCells_length, U8.txt_len]; decide) (by omega)).mono ?_
          rintro e W3 ⟨rfl, h3, b3, k3⟩
          go_wp2
          go_roundw
          case rel =>
            refine ⟨2 + 1, by omega, ?_, k3.iter (hit4) (by omega), hb4.trans (b3.mono (by omega)), ?_, ?_⟩
            · rw [U8.txt_succ, Lib.byteCells_append, show U8.txtAt v t 2 = 111 from by unfold U8.txtAt; simp [ht, hv, U8.letter, U8.letters]]; exact Or.inr h3
            · exact (b3.cell (by simp)).trans (hc4)
            · exact (b3.cell (by simp)).trans (hd4)
          case measure =>
            simp only [World.iterPos, k3.iter (hit4) (by omega), hit]
            omega
        · refine (low_of 79 (by decide) _).mono ?_
          rintro e w2 ⟨rfl, b2⟩
          have hI4 := Mem.bui_below (hI3.alloc _) b2
          have hit4 := (b2.block _ (by simp; omega)).trans ((Below.heap_alloc w1 _ _ hs3).trans hit3)
          have hb4 := (hb3.alloc (by omega) _).trans (b2.mono (by simp; omega))
          have hc4 := Mem.cbelow b2 (Mem.calloc _ hc3)
          have hd4 := Mem.cbelow b2 (Mem.calloc _ hd3)
          have hs4 : w.heap.size + 1 + 1 < w2.heap.size := Nat.lt_of_lt_of_le (by simp; omega) b2.size
          have ht4 := Mem.cbelow b2 (Mem.cnew (c := #[.bool false, .bool true]) (t := 36) (i := 1) (W := w1) rfl rfl)
          rw [show (⟨(Lib.toLowerA [79]).toArray⟩ : ByteArray) = ⟨#[111]⟩ from rfl]
          go_wp2_with fail
          refine (Tryd.Builder_WriteString_k (w.heap.size + 1) (w.heap.size + 1) _ ⟨#[63]⟩ _ (hI4) (by rw [Lib.byteCells_length, U8.txt_len]; decide) (by omega)).mono ?_
          rintro e W3 ⟨rfl, h3, b3, k3⟩
          go_wp2
          go_roundw
          case rel =>
            refine ⟨2 + 1, by omega, ?_, k3.iter (hit4) (by omega), hb4.trans (b3.mono (by omega)), ?_, ?_⟩
            · rw [U8.txt_succ, Lib.byteCells_append, show U8.txtAt v t 2 = 63 from by unfold U8.txtAt; simp [ht]]; exact Or.inr h3
            · exact (b3.cell (by simp)).trans (hc4)
            · exact (b3.cell (by simp)).trans (hd4)
          case measure =>
            simp only [World.iterPos, k3.iter (hit4) (by omega), hit]
            omega
        · refine (Tryd.Builder_WriteString_k (w.heap.size + 1) (w.heap.size + 1) _ ⟨#[79]⟩ _ (hI3.alloc _) (by rw [Lib.byteCells_length, U8.txt_len]; decide) (by simp; omega)).mono ?_
          rintro e W3 ⟨rfl, h3, b3, k3⟩
          go_wp2
          go_roundw
          case rel =>
            refine ⟨2 + 1, by omega, ?_, k3.iter ((Below.heap_alloc w1 _ _ hs3).trans hit3) (by omega), (hb3.alloc (by omega) _).trans (b3.mono (by omega)), ?_, ?_⟩
            · rw [U8.txt_succ, Lib.byteCells_append, show U8.txtAt v t 2 = 79 from by unfold U8.txtAt; simp [ht, hv, U8.letter, U8.letters]]; exact Or.inr h3
            · exact (b3.cell (by simp)).trans (Mem.calloc _ hc3)
            · exact (b3.cell (by simp)).trans (Mem.calloc _ hd3)
          case measure =>
            simp only [World.iterPos, k3.iter ((Below.heap_alloc w1 _ _ hs3).trans hit3) (by omega), hit]
            omega
        · refine (Tryd.Builder_WriteString_k (w.heap.size + 1) (w.heap.size + 1) _ ⟨#[63]⟩ _ (hI3.alloc _) (by rw [Lib.byteCells_length, U8.txt_len]; decide) (by simp; omega)).mono ?_
          rintro e W3 ⟨rfl, h3, b3, k3⟩
          go_wp2
          go_roundw
          case rel =>
            refine ⟨2 + 1, by omega, ?_, k3.iter ((Below.heap_alloc w1 _ _ hs3).trans hit3) (by omega), (hb3.alloc (by omega) _).trans (b3.mono (by omega)), ?_, ?_⟩
            · rw [U8.txt_succ, Lib.byteCells_append, show U8.txtAt v t 2 = 63 from by unfold U8.txtAt; simp [ht]]; exact Or.inr h3
            · exact (b3.cell (by simp)).trans (Mem.calloc _ hc3)
            · exact (b3.cell (by simp)).trans (Mem.calloc _ hd3)
          case measure =>
            simp only [World.iterPos, k3.iter ((Below.heap_alloc w1 _ _ hs3).trans hit3) (by omega), hit]
            omega
      · rw [show Utf8.decode U8.letters 3 = (66, 1) from rfl] at hnx
        generalize (wr.iterAt (w.heap.size + 1 + 1) U8.letters (3 + 1)) = W0 at *
        have hen : Utf8.encode 66 = ⟨#[66]⟩ := rfl
        go_wp2_with fail
        refine (get_4 v t _).mono ?_
        cases hv : U8.bitB v 4 <;> cases ht : U8.bitB t 4
        all_goals
          rintro e w1 ⟨rfl, b1⟩
          have hI3 := Mem.bui_below hI2 b1
          have hit3 := (b1.block _ hsz2).trans hit2
          have hb3 := hbw2.trans (b1.mono (by omega))
          have hc3 := Mem.cbelow b1 hd0
          have hd3 := Mem.cbelow b1 hd1
          have hs3 : w.heap.size + 1 + 1 < w1.heap.size := Nat.lt_of_lt_of_le hsz2 b1.size
          clear hI2 hit2 hbw2 hd0 hd1 hsz2 hI hnx hc0 hc1
          go_wp2_with fail
        · refine (low_of 66 (by decide) _).mono ?_
          rintro e w2 ⟨rfl, b2⟩
          have hI4 := Mem.bui_below (hI3.alloc _) b2
          have hit4 := (b2.block _ (by simp; omega)).trans ((Below.heap_alloc w1 _ _ hs3).trans hit3)
          have hb4 := (hb3.alloc (by omega) _).trans (b2.mono (by simp; omega))
          have hc4 := Mem.cbelow b2 (Mem.calloc _ hc3)
          have hd4 := Mem.cbelow b2 (Mem.calloc _ hd3)
          have hs4 : w.heap.size + 1 + 1 < w2.heap.size := Nat.lt_of_lt_of_le (by simp; omega) b2.size
          have ht4 := Mem.cbelow b2 (Mem.cnew (c := #[.bool false, .bool false]) (t := 36) (i := 1) (W := w1) rfl rfl)
          rw [show (⟨(Lib.toLowerA [66]).toArray⟩ : ByteArray) = ⟨#[98]⟩ from rfl]
          go_wp2_with fail
          refine (Tryd.Builder_WriteString_k (w.heap.size + 1) (w.heap.size + 1) _ ⟨#[98]⟩ _ (hI4) (by rw [Lib.byteCells_length, U8.txt_len]; decide) (by omega)).mono ?_
          rintro e W3 ⟨rfl, h3, b3, k3⟩
          go_wp2
          go_roundw
          case rel =>
            refine ⟨3 + 1, by omega, ?_, k3.iter (hit4) (by omega), hb4.trans (b3.mono (by omega)), ?_, ?_⟩
            · rw [U8.txt_succ, Lib.byteCells_append, show U8.txtAt v t 3 = 98 from by unfold U8.txtAt; simp [ht, hv, U8.letter, U8.letters]]; exact Or.inr h3
            · exact (b3.cell (by simp)).trans (hc4)
            · exact (b3.cell (by simp)).trans (hd4)
          case measure =>
            simp only [World.iterPos, k3.iter (hit4) (by omega), hit]
            omega
        · refine (low_of 66 (by decide) _).mono ?_
          rintro e w2 ⟨rfl, b2⟩
          have hI4 := Mem.bui_below (hI3.alloc _) b2
          have hit4 := (b2.block _ (by simp; omega)).trans ((Below.heap_alloc w1 _ _ hs3).trans hit3)
          have hb4 := (hb3.alloc (by omega) _).trans (b2.mono (by simp; omega))
          have hc4 := Mem.cbelow b2 (Mem.calloc _ hc3)
          have hd4 := Mem.cbelow b2 (Mem.calloc _ hd3)
          have hs4 : w.heap.size + 1 + 1 < w2.heap.size := Nat.lt_of_lt_of_le (by simp; omega) b2.size
          have ht4 := Mem.cbelow b2 (Mem.cnew (c := #[.bool false, .bool true]) (t := 36) (i := 1) (W := w1) rfl rfl)
          rw [show (⟨(Lib.toLowerA [66]).toArray⟩ : ByteArray) = ⟨#[98]⟩ from rfl]
          go_wp2_with fail
          refine (Tryd.Builder_WriteString_k (w.heap.size + 1) (w.heap.size + 1) _ ⟨#[63]⟩ _ (hI4) (by rw [Lib.byteCells_length, U8.txt_len]; decide) (by omega)).mono ?_
          rintro e W3 ⟨rfl, h3, b3, k3⟩
          go_wp2
          go_roundw
          case rel =>
            refine ⟨3 + 1, by omega, ?_, k3.iter (hit4) (by omega), hb4.trans (b3.mono (by omega)), ?_, ?_⟩
            · rw [U8.txt_succ, Lib.byteCells_append, show U8.txtAt v t 3 = 63 from by unfold U8.txtAt; simp [ht]]; exact Or.inr h3
            · exact (b3.cell (by simp)).trans (hc4)
            · exact (b3.cell (by simp)).trans (hd4)
          case measure =>
            simp only [World.iterPos, k3.iter (hit4) (by omega), hit]
            omega
        · refine (Tryd.Builder_WriteString_k (w.heap.size + 1) (w.heap.size + 1) _ ⟨#[66]⟩ _ (hI3.alloc _) (by rw [Lib.byteCells_length, U8.txt_len]; decide) (by simp; omega)).mono ?_
          rintro e W3 ⟨rfl, h3, b3, k3⟩
          go_wp2
          go_roundw
          case rel =>
            refine ⟨3 + 1, by omega, ?_, k3.iter ((Below.heap_alloc w1 _ _ hs3).trans hit3) (by omega), (hb3.alloc (by omega) _).trans (b3.mono (by omega)), ?_, ?_⟩
            · rw [U8.txt_succ, Lib.byteCells_append, show U8.txtAt v t 3 = 66 from by unfold U8.txtAt; simp [ht, hv, U8.letter, U8.letters]]; exact Or.inr h3
            · exact (b3.cell (by simp)).trans (Mem.calloc _ hc3)
            · exact (b3.cell (by simp)).trans (Mem.calloc _ hd3)
          case measure =>
            simp only [World.iterPos, k3.iter ((Below.heap_alloc w1 _ _ hs3).trans hit3) (by omega), hit]
            omega
        · refine (Tryd.Builder_WriteString_k (w.heap.size + 1) (w.heap.size + 1) _ ⟨#[63]⟩ _ (hI3.alloc _) (by rw [Lib.byteCells_length, U8.txt_len]; decide) (by simp; omega)).mono ?_
          rintro e W3 ⟨rfl, h3, b3, k3⟩
          go_wp2
          go_roundw
          case rel =>
            refine ⟨3 + 1, by omega, ?_, k3.iter ((Below.heap_alloc w1 _ _ hs3).trans hit3) (by omega), (hb3.alloc (by omega) _).trans (b3.mono (by omega)), ?_, ?_⟩
            · rw [U8.txt_succ, Lib.byteCells_append, show U8.txtAt v t 3 = 63 from by unfold U8.txtAt; simp [ht]]; exact Or.inr h3
            · exact (b3.cell (by simp)).trans (Mem.calloc _ hc3)
            · exact (b3.cell (by simp)).trans (Mem.calloc _ hd3)
          case measure =>
            simp only [World.iterPos, k3.iter ((Below.heap_alloc w1 _ _ hs3).trans hit3) (by omega), hit]
            omega
      · rw [show Utf8.decode U8.letters 4 = (68, 1) from rfl] at hnx
        generalize (wr.iterAt (w.heap.size + 1 + 1) U8.letters (4 + 1)) = W0 at *
        have hen : Utf8.encode 68 = ⟨#[68]⟩ := rfl
        go_wp2_with fail
        refine (get_3 v t _).mono ?_
        cases hv : U8.bitB v 3 <;> cases ht : U8.bitB t 3
        all_goals
          rintro e w1 ⟨rfl, b1⟩
          have hI3 := Mem.bui_below hI2 b1
          have hit3 := (b1.block _ hsz2).trans hit2
          have hb3 := hbw2.trans (b1.mono (by omega))
          have hc3 := Mem.cbelow b1 hd0
          have hd3 := Mem.cbelow b1 hd1
          have hs3 : w.heap.size + 1 + 1 < w1.heap.size := Nat.lt_of_lt_of_le hsz2 b1.size
          clear hI2 hit2 hbw2 hd0 hd1 hsz2 hI hnx hc0 hc1
          go_wp2_with fail
        · refine (low_of 68 (by decide) _).mono ?_
          rintro e w2 ⟨rfl, b2⟩
          have hI4 := Mem.bui_below (hI3.alloc _) b2
          have hit4 := (b2.block _ (by simp; omega)).trans ((Below.heap_alloc w1 _ _ hs3).trans hit3)
          have hb4 := (hb3.alloc (by omega) _).trans (b2.mono (by simp; omega))
          have hc4 := Mem.cbelow b2 (Mem.calloc _ hc3)
          have hd4 := Mem.cbelow b2 (Mem.calloc _ hd3)
          have hs4 : w.heap.size + 1 + 1 < w2.heap.size := Nat.lt_of_lt_of_le (by simp; omega) b2.size
          have ht4 := Mem.cbelow b2 (Mem.cnew (c := #[.bool false, .bool false]) (t := 36) (i := 1) (W := w1) rfl rfl)
          rw [show (⟨(Lib.toLowerA [68]).toArray⟩ : ByteArray) = ⟨#[100]⟩ from rfl]
          go_wp2_with fail
          refine (Tryd.Builder_WriteString_k (w.heap.size + 1) (w.heap.size + 1) _ ⟨#[100]⟩ _ (hI4) (by rw [Lib.byteCells_length, U8.txt_len]; decide) (by omega)).mono ?_
          rintro e W3 ⟨rfl, h3, b3, k3⟩
          go_wp2
          go_roundw
          case rel =>
            refine ⟨4 + 1, by omega, ?_, k3.iter (hit4) (by omega), hb4.trans (b3.mono (by omega)), ?_, ?_⟩
            · rw [U8.txt_succ, Lib.byteCells_append, show U8.txtAt v t 4 = 100 from by unfold U8.txtAt; simp [ht, hv, U8.letter, U8.letters]]; exact Or.inr h3
            · exact (b3.cell (by simp)).trans (hc4)
            · exact (b3.cell (by simp)).trans (hd4)
          case measure =>
            simp only [World.iterPos, k3.iter (hit4) (by omega), hit]
            omega
        · refine (low_of 68 (by decide) _).mono ?_
          rintro e w2 ⟨rfl, b2⟩
          have hI4 := Mem.bui_below (hI3.alloc _) b2
          have hit4 := (b2.block _ (by simp; omega)).trans ((Below.heap_alloc w1 _ _ hs3).trans hit3)
          have hb4 := (hb3.alloc (by omega) _).trans (b2.mono (by simp; omega))
          have hc4 := Mem.cbelow b2 (Mem.calloc _ hc3)
          have hd4 := Mem.cbelow b2 (Mem.calloc _ hd3)
          have hs4 : w.heap.size + 1 + 1 < w2.heap.size := Nat.lt_of_lt_of_le (by simp; omega) b2.size
          have ht4 := Mem.cbelow b2 (Mem.cnew (c := #[.bool false, .bool true]) (t := 36) (i := 1) (W := w1) rfl rfl)
          rw [show (⟨(Lib.toLowerA [68]).toArray⟩ : ByteArray) = ⟨#[100]⟩ from rfl]
          go_wp2_with fail
          refine (Tryd.Builder_WriteString_k (w.heap.size + 1) (w.heap.size + 1) _ ⟨#[63]⟩ _ (hI4) (by rw [Lib.byteCells_length, U8.txt_len]; decide) (by omega)).mono ?_
          rintro e W3 ⟨rfl, h3, b3, k3⟩
          go_wp2
          go_roundw
          case rel =>
            refine ⟨4 + 1, by omega, ?_, k3.iter (hit4) (by omega), hb4.trans (b3.mono (by omega)), ?_, ?_⟩
            · rw [U8.txt_succ, Lib.byteCells_append, show U8.txtAt v t 4 = 63 from by unfold U8.txtAt; simp [ht]]; exact Or.inr h3
            · exact (b3.cell (by simp)).trans (hc4)
            · exact (b3.cell (by simp)).trans (hd4)
          case measure =>
            simp only [World.iterPos, k3.iter (hit4) (by omega), hit]
            omega
        · refine (Tryd.Builder_WriteString_k (w.heap.size + 1) (w.heap.size + 1) _ ⟨#[68]⟩ _ (hI3.alloc _) (by rw [Lib.byteCells_length, U8.txt_len]; decide) (by simp; omega)).mono ?_
          rintro e W3 ⟨rfl, h3, b3, k3⟩
          go_wp2
          go_roundw
          case rel =>
            refine ⟨4 + 1, by omega, ?_, k3.iter ((Below.heap_alloc w1 _ _ hs3).trans hit3) (by omega), (hb3.alloc (by omega) _).trans (b3.mono (by omega)), ?_, ?_⟩
            · rw [U8.txt_succ, Lib.byteCells_append, show U8.txtAt v t 4 = 68 from by unfold U8.txtAt; simp [ht, hv, U8.letter, U8.letters]]; exact Or.inr h3
            · exact (b3.cell (by simp)).trans (Mem.calloc _ hc3)
            · exact (b3.cell (by simp)).trans (Mem.calloc _ hd3)
          case measure =>
            simp only [World.iterPos, k3.iter ((Below.heap_alloc w1 _ _ hs3).trans hit3) (by omega), hit]
            omega
        · refine (Tryd.Builder_WriteString_k (w.heap.size + 1) (w.heap.size + 1) _ ⟨#[63]⟩ _ (hI3.alloc _) (by rw [Lib.byteCells_length, U8.txt_len]; decide) (by simp; omega)).mono ?_
          rintro e W3 ⟨rfl, h3, b3, k3⟩
          go_wp2
          go_roundw
          case rel =>
            refine ⟨4 + 1, by omega, ?_, k3.iter ((Below.heap_alloc w1 _ _ hs3).trans hit3) (by omega), (hb3.alloc (by omega) _).trans (b3.mono (by omega)), ?_, ?_⟩
            · rw [U8.txt_succ, Lib.byteCells_append, show U8.txtAt v t 4 = 63 from by unfold U8.txtAt; simp [ht]]; exact Or.inr h3
            · exact (b3.cell (by simp)).trans (Mem.calloc _ hc3)
            · exact (b3.cell (by simp)).trans (Mem.calloc _ hd3)
          case measure =>
            simp only [World.iterPos, k3.iter ((Below.heap_alloc w1 _ _ hs3).trans hit3) (by omega), hit]
            omega
      · rw [show Utf8.decode U8.letters 5 = (73, 1) from rfl] at hnx
        generalize (wr.iterAt (w.heap.size + 1 + 1) U8.letters (5 + 1)) = W0 at *
        have hen : Utf8.encode 73 = ⟨#[73]⟩ := rfl
        go_wp2_with fail
        refine (get_2 v t _).mono ?_
        cases hv : U8.bitB v 2 <;> cases ht : U8.bitB t 2
        all_goals
          rintro e w1 ⟨rfl, b1⟩
          have hI3 := Mem.bui_below hI2 b1
          have hit3 := (b1.block _ hsz2).trans hit2
          have hb3 := hbw2.trans (b1.mono (by omega))
          have hc3 := Mem.cbelow b1 hd0
          have hd3 := Mem.cbelow b1 hd1
          have hs3 : w.heap.size + 1 + 1 < w1.heap.size := Nat.lt_of_lt_of_le hsz2 b1.size
          clear hI2 hit2 hbw2 hd0 hd1 hsz2 hI hnx hc0 hc1
          go_wp2_with fail
        · refine (low_of 73 (by decide) _).mono ?_
          rintro e w2 ⟨rfl, b2⟩
          have hI4 := Mem.bui_below (hI3.alloc _) b2
          have hit4 := (b2.block _ (by simp; omega)).trans ((Below.heap_alloc w1 _ _ hs3).trans hit3)
          have hb4 := (hb3.alloc (by omega) _).trans (b2.mono (by simp; omega))
          have hc4 := Mem.cbelow b2 (Mem.calloc _ hc3)
          have hd4 := Mem.cbelow b2 (Mem.calloc _ hd3)
          have hs4 : w.heap.size + 1 + 1 < w2.heap.size := Nat.lt_of_lt_of_le (by simp; omega) b2.size
          have ht4 := Mem.cbelow b2 (Mem.cnew (c := #[.bool false, .bool false]) (t := 36) (i := 1) (W := w1) rfl rfl)
          rw [show (⟨(Lib.toLowerA [73]).toArray⟩ : ByteArray) = ⟨#[105]⟩ from rfl]
          go_wp2_with fail
          refine (Tryd.Builder_WriteString_k (w.heap.size + 1) (w.heap.size + 1) _ ⟨#[105]⟩ _ (hI4) (by rw [Lib.byteCells_length, U8.txt_len]; decide) (by omega)).mono ?_
          rintro e W3 ⟨rfl, h3, b3, k3⟩
          go_wp2
          go_roundw
          case rel =>
            refine ⟨5 + 1, by omega, ?_, k3.iter (hit4) (by omega), hb4.trans (b3.mono (by omega)), ?_, ?_⟩
            · rw [U8.txt_succ, Lib.byteCells_append, show U8.txtAt v t 5 = 105 from by unfold U8.txtAt; simp [ht, hv, U8.letter, U8.letters]]; exact Or.inr h3
            · exact (b3.cell (by simp)).trans (hc4)
            · exact (b3.cell (by simp)).trans (hd4)
          case measure =>
            simp only [World.iterPos, k3.iter (hit4) (by omega), hit]
            omega
        · refine (low_of 73 (by decide) _).mono ?_
          rintro e w2 ⟨rfl, b2⟩
          have hI4 := Mem.bui_below (hI3.alloc _) b2
          have hit4 := (b2.block _ (by simp; omega)).trans ((Below.heap_alloc w1 _ _ hs3).trans hit3)
          have hb4 := (hb3.alloc (by omega) _).trans (b2.mono (by simp; omega))
          have hc4 := Mem.cbelow b2 (Mem.calloc _ hc3)
          have hd4 := Mem.cbelow b2 (Mem.calloc _ hd3)
          have hs4 : w.heap.size + 1 + 1 < w2.heap.size := Nat.lt_of_lt_of_le (by simp; omega) b2.size
          have ht4 := Mem.cbelow b2 (Mem.cnew (c := #[.bool false, .bool true]) (t := 36) (i := 1) (W := w1) rfl rfl)
          rw [show (⟨(Lib.toLowerA [73]).toArray⟩ : ByteArray) = ⟨#[105]⟩ from rfl]
          go_wp2_with fail
          refine (Tryd.Builder_WriteString_k (w.heap.size + 1) (w.heap.size + 1) _ ⟨#[63]⟩ _ (hI4) (by rw [Lib.byteCells_length, U8.txt_len]; decide) (by omega)).mono ?_
          rintro e W3 ⟨rfl, h3, b3, k3⟩
          go_wp2
          go_roundw
          case rel =>
            refine ⟨5 + 1, by omega, ?_, k3.iter (hit4) (by omega), hb4.trans (b3.mono (by omega)), ?_, ?_⟩
            · rw [U8.txt_succ, Lib.byteCells_append, show U8.txtAt v t 5 = 63 from by unfold U8.txtAt; simp [ht]]; exact Or.inr h3
            · exact (b3.cell (by simp)).trans (hc4)
            · exact (b3.cell (by simp)).trans (hd4)
          case measure =>
            simp only [World.iterPos, k3.iter (hit4) (by omega), hit]
            omega
        · refine (Tryd.Builder_WriteString_k (w.heap.size + 1) (w.heap.size + 1) _ ⟨#[73]⟩ _ (hI3.alloc _) (by rw [Lib.byteCells_length, U8.txt_len]; decide) (by simp; omega)).mono ?_
          rintro e W3 ⟨rfl, h3, b3, k3⟩
          go_wp2
          go_roundw
          case rel =>
            refine ⟨5 + 1, by omega, ?_, k3.iter ((Below.heap_alloc w1 _ _ hs3).trans hit3) (by omega), (hb3.alloc (by omega) _).trans (b3.mono (by omega)), ?_, ?_⟩
            · rw [U8.txt_succ, Lib.byteCells_append, show U8.txtAt v t 5 = 73 from by unfold U8.txtAt; simp [ht, hv, U8.letter, U8.letters]]; exact Or.inr h3
            · exact (b3.cell (by simp)).trans (Mem.calloc _ hc3)
            · exact (b3.cell (by simp)).trans (Mem.calloc _ hd3)
          case measure =>
            simp only [World.iterPos, k3.iter ((Below.heap_alloc w1 _ _ hs3).trans hit3) (by omega), hit]
            omega
        · refine (Tryd.Builder_WriteString_k (w.heap.size + 1) (w.heap.size + 1) _ ⟨#[63]⟩ _ (hI3.alloc _) (by rw [Lib.byteCells_length, U8.txt_len]; decide) (by simp; omega)).mono ?_
          rintro e W3 ⟨rfl, h3, b3, k3⟩
          go_wp2
          go_roundw
          case rel =>
            refine ⟨5 + 1, by omega, ?_, k3.iter ((Below.heap_alloc w1 _ _ hs3).trans hit3) (by omega), (hb3.alloc (by omega) _).trans (b3.mono (by omega)), ?_, ?_⟩
            · rw [U8.txt_succ, Lib.byteCells_append, show U8.txtAt v t 5 = 63 from by unfold U8.txtAt; simp [ht]]; exact Or.inr h3
            · exact (b3.cell (by simp)).trans (Mem.calloc _ hc3)
            · exact (b3.cell (by simp)).trans (Mem.calloc _ hd3)
          case measure =>
            simp only [World.iterPos, k3.iter ((Below.heap_alloc w1 _ _ hs3).trans hit3) (by omega), hit]
            omega
      · rw [show Utf8.decode U8.letters 6 = (90, 1) from rfl] at hnx
        generalize (wr.iterAt (w.heap.size + 1 + 1) U8.letters (6 + 1)) = W0 at *
        have hen : Utf8.encode 90 = ⟨#[90]⟩ := rfl
        go_wp2_with fail
        refine (get_1 v t _).mono ?_
        cases hv : U8.bitB v 1 <;> cases ht : U8.bitB t 1
        all_goals
          rintro e w1 ⟨rfl, b1⟩
          have hI3 := Mem.bui_below hI2 b1
          have hit3 := (b1.block _ hsz2).trans hit2
          have hb3 := hbw2.trans (b1.mono (by omega))
          have hc3 := Mem.cbelow b1 hd0
          have hd3 := Mem.cbelow b1 hd1
          have hs3 : w.heap.size + 1 + 1 < w1.heap.size := Nat.lt_of_lt_of_le hsz2 b1.size
          clear hI2 hit2 hbw2 hd0 hd1 hsz2 hI hnx hc0 hc1
          go_wp2_with fail
        · refine (low_of 90 (by decide) _).mono ?_
          rintro e w2 ⟨rfl, b2⟩
          have hI4 := Mem.bui_below (hI3.alloc _) b2
          have hit4 := (b2.block _ (by simp; omega)).trans ((Below.heap_alloc w1 _ _ hs3).trans hit3)
          have hb4 := (hb3.alloc (by omega) _).trans (b2.mono (by simp; omega))
          have hc4 := Mem.cbelow b2 (Mem.calloc _ hc3)
          have hd4 := Mem.cbelow b2 (Mem.calloc _ hd3)
          have hs4 : w.heap.size + 1 + 1 < w2.heap.size := Nat.lt_of_lt_of_le (by simp; omega) b2.size
          have ht4 := Mem.cbelow b2 (Mem.cnew (c := #[.bool false, .bool false]) (t := 36) (i := 1) (W := w1) rfl rfl)
          rw [show (⟨(Lib.toLowerA [90]).toArray⟩ : ByteArray) = ⟨#[122]⟩ from rfl]
          go_wp2_with fail
          refine (Tryd.Builder_WriteString_k (w.heap.size + 1) (w.heap.size + 1) _ ⟨#[122]⟩ _ (hI4) (by rw [Lib.byteCells_length, U8.txt_len]; decide) (by omega)).mono ?_
          rintro e W3 ⟨rfl, h3, b3, k3⟩
          go_wp2
          go_roundw
          case rel =>
            refine ⟨6 + 1, by omega, ?_, k3.iter (hit4) (by omega), hb4.trans (b3.mono (by omega)), ?_, ?_⟩
            · rw [U8.txt_succ, Lib.byteCells_append, show U8.txtAt v t 6 = 122 from by unfold U8.txtAt; simp [ht, hv, U8.letter, U8.letters]]; exact Or.inr h3
            · exact (b3.cell (by simp)).trans (hc4)
            · exact (b3.cell (by simp)).trans (hd4)
          case measure =>
            simp only [World.iterPos, k3.iter (hit4) (by omega), hit]
            omega
        · refine (low_of 90 (by decide) _).mono ?_
          rintro e w2 ⟨rfl, b2⟩
          have hI4 := Mem.bui_below (hI3.alloc _) b2
          have hit4 := (b2.block _ (by simp; omega)).trans ((Below.heap_alloc w1 _ _ hs3).trans hit3)
          have hb4 := (hb3.alloc (by omega) _).trans (b2.mono (by simp; omega))
          have hc4 := Mem.cbelow b2 (Mem.calloc _ hc3)
          have hd4 := Mem.cbelow b2 (Mem.calloc _ hd3)
          have hs4 : w.heap.size + 1 + 1 < w2.heap.size := Nat.lt_of_lt_of_le (by simp; omega) b2.size
          have ht4 := Mem.cbelow b2 (Mem.cnew (c := #[.bool false, .bool true]) (t := 36) (i := 1) (W := w1) rfl rfl)
          rw [show (⟨(Lib.toLowerA [90]).toArray⟩ : ByteArray) = ⟨#[122]⟩ from rfl]
          go_wp2_with fail
          refine (Tryd.Builder_WriteString_k (w.heap.size + 1) (w.heap.size + 1) _ ⟨#[63]⟩ _ (hI4) (by rw [Lib.byteCells_length, U8.txt_len]; decide) (by omega)).mono ?_
          rintro e W3 ⟨rfl, h3, b3, k3⟩
          go_wp2
          go_roundw
          case rel =>
            refine ⟨6 + 1, by omega, ?_, k3.iter (hit4) (by omega), hb4.trans (b3.mono (by omega)), ?_, ?_⟩
            · rw [U8.txt_succ, Lib.byteCells_append, show U8.txtAt v t 6 = 63 from by unfold U8.txtAt; simp [ht]]; exact Or.inr h3
            · exact (b3.cell (by simp)).trans (hc4)
            · exact (b3.cell (by simp)).trans (hd4)
          case measure =>
            simp only [World.iterPos, k3.iter (hit4) (by omega), hit]
            omega
        · refine (Tryd.Builder_WriteString_k (w.heap.size + 1) (w.heap.size + 1) _ ⟨#[90]⟩ _ (hI3.alloc _) (by rw [Lib.byteCells_length, U8.txt_len]; decide) (by simp; omega)).mono ?_
          rintro e W3 ⟨rfl, h3, b3, k3⟩
          go_wp2
          go_roundw
          case rel =>
            refine ⟨6 + 1, by omega, ?_, k3.iter ((Below.heap_alloc w1 _ _ hs3).trans hit3) (by omega), (hb3.alloc (by omega) _).trans (b3.mono (by omega)), ?_, ?_⟩
            · rw [U8.txt_succ, Lib.byteCells_append, show U8.txtAt v t 6 = 90 from by unfold U8.txtAt; simp [ht, hv, U8.letter, U8.letters]]; exact Or.inr h3
            · exact (b3.cell (by simp)).trans (Mem.calloc _ hc3)
            · exact (b3.cell (by simp)).trans (Mem.calloc _ hd3)
          case measure =>
            simp only [World.iterPos, k3.iter ((Below.heap_alloc w1 _ _ hs3).trans hit3) (by omega), hit]
            omega
        · refine (Tryd.Builder_WriteString_k (w.heap.size + 1) (w.heap.size + 1) _ ⟨#[63]⟩ _ (hI3.alloc _) (by rw [Lib.byteCells_length, U8.txt_len]; decide) (by simp; omega)).mono ?_
          rintro e W3 ⟨rfl, h3, b3, k3⟩
          go_wp2
          go_roundw
          case rel =>
            refine ⟨6 + 1, by omega, ?_, k3.iter ((Below.heap_alloc w1 _ _ hs3).trans hit3) (by omega), (hb3.alloc (by omega) _).trans (b3.mono (by omega)), ?_, ?_⟩
            · rw [U8.txt_succ, Lib.byteCells_append, show U8.txtAt v t 6 = 63 from by unfold U8.txtAt; simp [ht]]; exact Or.inr h3
            · exact (b3.cell (by simp)).trans (Mem.calloc _ hc3)
            · exact (b3.cell (by simp)).trans (Mem.calloc _ hd3)
          case measure =>
            simp only [World.iterPos, k3.iter ((Below.heap_alloc w1 _ _ hs3).trans hit3) (by omega), hit]
            omega
      · rw [show Utf8.decode U8.letters 7 = (67, 1) from rfl] at hnx
        generalize (wr.iterAt (w.heap.size + 1 + 1) U8.letters (7 + 1)) = W0 at *
        have hen : Utf8.encode 67 = ⟨#[67]⟩ := rfl
        go_wp2_with fail
        refine (get_0 v t _).mono ?_
        cases hv : U8.bitB v 0 <;> cases ht : U8.bitB t 0
        all_goals
          rintro e w1 ⟨rfl, b1⟩
          have hI3 := Mem.bui_below hI2 b1
          have hit3 := (b1.block _ hsz2).trans hit2
          have hb3 := hbw2.trans (b1.mono (by omega))
          have hc3 := Mem.cbelow b1 hd0
          have hd3 := Mem.cbelow b1 hd1
          have hs3 : w.heap.size + 1 + 1 < w1.heap.size := Nat.lt_of_lt_of_le hsz2 b1.size
          clear hI2 hit2 hbw2 hd0 hd1 hsz2 hI hnx hc0 hc1
          go_wp2_with fail
        · refine (low_of 67 (by decide) _).mono ?_
          rintro e w2 ⟨rfl, b2⟩
          have hI4 := Mem.bui_below (hI3.alloc _) b2
          have hit4 := (b2.block _ (by simp; omega)).trans ((Below.heap_alloc w1 _ _ hs3).trans hit3)
          have hb4 := (hb3.alloc (by omega) _).trans (b2.mono (by simp; omega))
          have hc4 := Mem.cbelow b2 (Mem.calloc _ hc3)
          have hd4 := Mem.cbelow b2 (Mem.calloc _ hd3)
          have hs4 : w.heap.size + 1 + 1 < w2.heap.size := Nat.lt_of_lt_of_le (by simp; omega) b2.size
          have ht4 := Mem.cbelow b2 (Mem.cnew (c := #[.bool false, .bool false]) (t := 36) (i := 1) (W := w1) rfl rfl)
          rw [show (⟨(Lib.toLowerA [67]).toArray⟩ : ByteArray) = ⟨#[99]⟩ from rfl]
          go_wp2_with fail
          refine (Tryd.Builder_WriteString_k (w.heap.size + 1) (w.heap.size + 1) _ ⟨#[99]⟩ _ (hI4) (by rw [Lib.byteCells_length, U8.txt_len]; decide) (by omega)).mono ?_
          rintro e W3 ⟨rfl, h3, b3, k3⟩
          go_wp2
          go_roundw
          case rel =>
            refine ⟨7 + 1, by omega, ?_, k3.iter (hit4) (by omega), hb4.trans (b3.mono (by omega)), ?_, ?_⟩
            · rw [U8.txt_succ, Lib.byteCells_append, show U8.txtAt v t 7 = 99 from by unfold U8.txtAt; simp [ht, hv, U8.letter, U8.letters]]; exact Or.inr h3
            · exact (b3.cell (by simp)).trans (hc4)
            · exact (b3.cell (by simp)).trans (hd4)
          case measure =>
            simp only [World.iterPos, k3.iter (hit4) (by omega), hit]
            omega
        · refine (low_of 67 (by decide) _).mono ?_
          rintro e w2 ⟨rfl, b2⟩
          have hI4 := Mem.bui_below (hI3.alloc _) b2
          have hit4 := (b2.block _ (by simp; omega)).trans ((Below.heap_alloc w1 _ _ hs3).trans hit3)
          have hb4 := (hb3.alloc (by omega) _).trans (b2.mono (by simp; omega))
          have hc4 := Mem.cbelow b2 (Mem.calloc _ hc3)
          have hd4 := Mem.cbelow b2 (Mem.calloc _ hd3)
          have hs4 : w.heap.size + 1 + 1 < w2.heap.size := Nat.lt_of_lt_of_le (by simp; omega) b2.size
          have ht4 := Mem.cbelow b2 (Mem.cnew (c := #[.bool false, .bool true]) (t := 36) (i := 1) (W := w1) rfl rfl)
          rw [show (⟨(Lib.toLowerA [67]).toArray⟩ : ByteArray) = ⟨#[99]⟩ from rfl]
          go_wp2_with fail
          refine (Tryd.Builder_WriteString_k (w.heap.size + 1) (w.heap.size + 1) _ ⟨#[63]⟩ _ (hI4) (by rw [Lib.byteCells_length, U8.txt_len]; decide) (by omega)).mono ?_
          rintro e W3 ⟨rfl, h3, b3, k3⟩
          go_wp2
          go_roundw
          case rel =>
            refine ⟨7 + 1, by omega, ?_, k3.iter (hit4) (by omega), hb4.trans (b3.mono (by omega)), ?_, ?_⟩
            · rw [U8.txt_succ, Lib.byteCells_append, show U8.txtAt v t 7 = 63 from by unfold U8.txtAt; simp [ht]]; exact Or.inr h3
            · exact (b3.cell (by simp)).trans (hc4)
            · exact (b3.cell (by simp)).trans (hd4)
          case measure =>
            simp only [World.iterPos, k3.iter (hit4) (by omega), hit]
            omega
        · refine (Tryd.Builder_WriteString_k (w.heap.size + 1) (w.heap.size + 1) _ ⟨#[67]⟩ _ (hI3.alloc _) (by rw [Lib.byteCells_length, U8.txt_len]; decide) (by simp; omega)).mono ?_
          rintro e W3 ⟨rfl, h3, b3, k3⟩
          go_wp2
          go_roundw
          case rel =>
            refine ⟨7 + 1, by omega, ?_, k3.iter ((Below.heap_alloc w1 _ _ hs3).trans hit3) (by omega), (hb3.alloc (by omega) _).trans (b3.mono (by omega)), ?_, ?_⟩
            · rw [U8.txt_succ, Lib.byteCells_append, show U8.txtAt v t 7 = 67 from by unfold U8.txtAt; simp [ht, hv, U8.letter, U8.letters]]; exact Or.inr h3
            · exact (b3.cell (by simp)).trans (Mem.calloc _ hc3)
            · exact (b3.cell (by simp)).trans (Mem.calloc _ hd3)
          case measure =>
            simp only [World.iterPos, k3.iter ((Below.heap_alloc w1 _ _ hs3).trans hit3) (by omega), hit]
            omega
        · refine (Tryd.Builder_WriteString_k (w.heap.size + 1) (w.heap.size + 1) _ ⟨#[63]⟩ _ (hI3.alloc _) (by rw [Lib.byteCells_length, U8.txt_len]; decide) (by simp; omega)).mono ?_
          rintro e W3 ⟨rfl, h3, b3, k3⟩
          go_wp2
          go_roundw
          case rel =>
            refine ⟨7 + 1, by omega, ?_, k3.iter ((Below.heap_alloc w1 _ _ hs3).trans hit3) (by omega), (hb3.alloc (by omega) _).trans (b3.mono (by omega)), ?_, ?_⟩
            · rw [U8.txt_succ, Lib.byteCells_append, show U8.txtAt v t 7 = 63 from by unfold U8.txtAt; simp [ht]]; exact Or.inr h3
            · exact (b3.cell (by simp)).trans (Mem.calloc _ hc3)
            · exact (b3.cell (by simp)).trans (Mem.calloc _ hd3)
          case measure =>
            simp only [World.iterPos, k3.iter ((Below.heap_alloc w1 _ _ hs3).trans hit3) (by omega), hit]
            omega
    · obtain rfl : pos = 8 := by omega
      have hnx : ∀ ty, (Instr.next (.pointer (some ⟨w.heap.size + 1 + 1, 0, none⟩)) true ty).run Tryd.prog wr = _ := fun ty => Lib.run_next_end_at wr (w.heap.size + 1 + 1) U8.letters 8 ty hit (by decide)
      go_wp2_with (go_at_call 26; refine (Tryd.Builder_String_any_k (w.heap.size + 1) (w.heap.size + 1) (U8.txt v t 8) _ hI (by omega)).mono ?_)
      rintro e W1 ⟨rfl, _, b1, _⟩
      go_wp2
      go_ret
      exact ⟨rfl, hbw.trans (b1.mono (by omega))⟩
end Go.Proofs.YtodfgcbgiaboiaaDoor
