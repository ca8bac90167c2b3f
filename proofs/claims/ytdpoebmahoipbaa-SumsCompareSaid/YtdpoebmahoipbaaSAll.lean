/-
  Walks: what sums.Add and sums.Sub return, whatever the digits are: the ways joined.
-/
import Derived.Test.YtdpoebmahoipbaaSAddDlnh
import Derived.Test.YtdpoebmahoipbaaSAddDlnH
import Derived.Test.YtdpoebmahoipbaaSAddDluh
import Derived.Test.YtdpoebmahoipbaaSAddDluH
import Derived.Test.YtdpoebmahoipbaaSAddDloh
import Derived.Test.YtdpoebmahoipbaaSAddDloH
import Derived.Test.YtdpoebmahoipbaaSAddDLnh
import Derived.Test.YtdpoebmahoipbaaSAddDLnH
import Derived.Test.YtdpoebmahoipbaaSAddDLuh
import Derived.Test.YtdpoebmahoipbaaSAddDLuH
import Derived.Test.YtdpoebmahoipbaaSAddDLoh
import Derived.Test.YtdpoebmahoipbaaSAddDLoH
import Derived.Test.YtdpoebmahoipbaaSSubDlh
import Derived.Test.YtdpoebmahoipbaaSSubDlH
import Derived.Test.YtdpoebmahoipbaaSSubDLh
import Derived.Test.YtdpoebmahoipbaaSSubDLH
import Derived.Test.YtdpoebmahoipbaaSAdd
import Derived.Test.YtdpoebmahoipbaaSSub
namespace Go.Proofs.Ytdpoebmahoipbaa
open Go Go.RowKit

namespace U8
/-- A sum: the byte, its secret bits, and N, V, Z, C, each with its secret. -/
structure S10 where
  A : BitVec 8
  T : BitVec 8
  n : Bool
  nt : Bool
  v : Bool
  vt : Bool
  z : Bool
  zt : Bool
  c : Bool
  ct : Bool
def addS (v t u s : BitVec 8) (b c d e : Bool) : S10 :=
  match d, e with
  | false, false => ⟨sumA v u b, spreadB (secT t s c), bitB (sumA v u b) 7, bitB (spreadB (secT t s c)) 7, beyB v u (sumA v u b), nzB (secT t s c), zeroV (sumA v u b), zeroT (sumA v u b) (spreadB (secT t s c)), carB v u b, nzB (secT t s c)⟩
  | false, true => ⟨sumA v u b, hidT (anyB t s c true), bitB (sumA v u b) 7, anyB t s c true, beyB v u (sumA v u b), anyB t s c true, zeroV (sumA v u b), anyB t s c true, carB v u b, anyB t s c true⟩
  | true, e => ⟨decA v u b, hidT (anyB t s c e), decN v u b, anyB t s c e, decV v u b, anyB t s c e, zeroV (sumA v u b), anyB t s c e, decC v u b, anyB t s c e⟩
def subS (v t u s : BitVec 8) (b c d e : Bool) : S10 :=
  match d, e with
  | false, false => ⟨sumA v (cpl u) b, spreadB (secT t s c), bitB (sumA v (cpl u) b) 7, bitB (spreadB (secT t s c)) 7, beyB v (cpl u) (sumA v (cpl u) b), nzB (secT t s c), zeroV (sumA v (cpl u) b), zeroT (sumA v (cpl u) b) (spreadB (secT t s c)), carB v (cpl u) b, nzB (secT t s c)⟩
  | false, true => ⟨sumA v (cpl u) b, hidT (anyB t s c true), bitB (sumA v (cpl u) b) 7, anyB t s c true, beyB v (cpl u) (sumA v (cpl u) b), anyB t s c true, zeroV (sumA v (cpl u) b), anyB t s c true, carB v (cpl u) b, anyB t s c true⟩
  | true, e => ⟨lesA v u b, hidT (anyB t s c e), bitB (sumA v (cpl u) b) 7, anyB t s c e, beyB v (cpl u) (sumA v (cpl u) b), anyB t s c e, zeroV (sumA v (cpl u) b), anyB t s c e, carB v (cpl u) b, anyB t s c e⟩
end U8

theorem add_any (v t u s : BitVec 8) (b c d e0 : Bool) (w : World) : Calls Try.prog 12 #[.agg #[.int .u8 (v.toNat : Int), .int .u8 (t.toNat : Int)], .agg #[.int .u8 (u.toNat : Int), .int .u8 (s.toNat : Int)], .agg #[.bool b, .bool c], .agg #[.bool d, .bool e0]] w fun e w' =>
    e = .returned (.agg #[.int .u8 (((U8.addS v t u s b c d e0).A).toNat : Int), .int .u8 (((U8.addS v t u s b c d e0).T).toNat : Int), .bool (U8.addS v t u s b c d e0).n, .bool (U8.addS v t u s b c d e0).nt, .bool (U8.addS v t u s b c d e0).v, .bool (U8.addS v t u s b c d e0).vt, .bool (U8.addS v t u s b c d e0).z, .bool (U8.addS v t u s b c d e0).zt, .bool (U8.addS v t u s b c d e0).c, .bool (U8.addS v t u s b c d e0).ct]) ∧ Below w.heap.size w w' := by
  cases d
  · cases e0
    · exact add_plain v t u s b c w
    · exact add_late v t u s b c w
  · rcases Int.lt_or_le (U8.lsum v u b) 10 with h1 | h1 <;> rcases Int.lt_or_le (U8.hdec v u b) 160 with h3 | h3 <;> rcases Int.lt_or_le (U8.both v u b) (-128) with h2 | h2
    · exact add_dec_luh v t u s b c e0 (Mem.hide h1) (Mem.hide h2) (Mem.hide h3) w
    · rcases Int.lt_or_le (U8.both v u b) 128 with h4 | h4
      · exact add_dec_lnh v t u s b c e0 (Mem.hide h1) (Mem.hide ⟨h2, h4⟩) (Mem.hide h3) w
      · exact add_dec_loh v t u s b c e0 (Mem.hide h1) (Mem.hide h4) (Mem.hide h3) w
    · exact add_dec_luH v t u s b c e0 (Mem.hide h1) (Mem.hide h2) (Mem.hide h3) w
    · rcases Int.lt_or_le (U8.both v u b) 128 with h4 | h4
      · exact add_dec_lnH v t u s b c e0 (Mem.hide h1) (Mem.hide ⟨h2, h4⟩) (Mem.hide h3) w
      · exact add_dec_loH v t u s b c e0 (Mem.hide h1) (Mem.hide h4) (Mem.hide h3) w
    · exact add_dec_Luh v t u s b c e0 (Mem.hide h1) (Mem.hide h2) (Mem.hide h3) w
    · rcases Int.lt_or_le (U8.both v u b) 128 with h4 | h4
      · exact add_dec_Lnh v t u s b c e0 (Mem.hide h1) (Mem.hide ⟨h2, h4⟩) (Mem.hide h3) w
      · exact add_dec_Loh v t u s b c e0 (Mem.hide h1) (Mem.hide h4) (Mem.hide h3) w
    · exact add_dec_LuH v t u s b c e0 (Mem.hide h1) (Mem.hide h2) (Mem.hide h3) w
    · rcases Int.lt_or_le (U8.both v u b) 128 with h4 | h4
      · exact add_dec_LnH v t u s b c e0 (Mem.hide h1) (Mem.hide ⟨h2, h4⟩) (Mem.hide h3) w
      · exact add_dec_LoH v t u s b c e0 (Mem.hide h1) (Mem.hide h4) (Mem.hide h3) w

theorem sub_any (v t u s : BitVec 8) (b c d e0 : Bool) (w : World) : Calls Try.prog 15 #[.agg #[.int .u8 (v.toNat : Int), .int .u8 (t.toNat : Int)], .agg #[.int .u8 (u.toNat : Int), .int .u8 (s.toNat : Int)], .agg #[.bool b, .bool c], .agg #[.bool d, .bool e0]] w fun e w' =>
    e = .returned (.agg #[.int .u8 (((U8.subS v t u s b c d e0).A).toNat : Int), .int .u8 (((U8.subS v t u s b c d e0).T).toNat : Int), .bool (U8.subS v t u s b c d e0).n, .bool (U8.subS v t u s b c d e0).nt, .bool (U8.subS v t u s b c d e0).v, .bool (U8.subS v t u s b c d e0).vt, .bool (U8.subS v t u s b c d e0).z, .bool (U8.subS v t u s b c d e0).zt, .bool (U8.subS v t u s b c d e0).c, .bool (U8.subS v t u s b c d e0).ct]) ∧ Below w.heap.size w w' := by
  cases d
  · cases e0
    · exact sub_plain v t u s b c w
    · exact sub_late v t u s b c w
  · rcases Int.lt_or_le (U8.ldif v u b) 0 with h1 | h1 <;> rcases Int.lt_or_le (U8.hles v u b) 0 with h3 | h3
    · exact sub_dec_LH v t u s b c e0 (Mem.hide h1) (Mem.hide h3) w
    · exact sub_dec_Lh v t u s b c e0 (Mem.hide h1) (Mem.hide h3) w
    · exact sub_dec_lH v t u s b c e0 (Mem.hide h1) (Mem.hide h3) w
    · exact sub_dec_lh v t u s b c e0 (Mem.hide h1) (Mem.hide h3) w

end Go.Proofs.Ytdpoebmahoipbaa
