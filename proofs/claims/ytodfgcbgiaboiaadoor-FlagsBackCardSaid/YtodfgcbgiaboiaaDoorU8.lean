/-
  Plain laws on bytes: what the walk's raw terms on uint8 come to, as bit vectors of eight bits. No Go text, no program in sight.
-/
import Derived.Laws.BitsAllLaws
import Derived.Laws.ShiftsVarLaws
import Derived.Lib.BitFns
import Derived.WalkKit
namespace Go.Proofs.YtodfgcbgiaboiaaDoor
open Go
namespace U8

theorem ofInt_ (x : BitVec 8) : BitVec.ofInt 8 (x.toNat : Int) = x := by
  rw [BitVec.ofInt_natCast, BitVec.ofNat_toNat, BitVec.setWidth_eq]
theorem wrap_ (x : BitVec 8) : IntKind.u8.wrap (x.toNat : Int) = (x.toNat : Int) := by
  have := x.isLt
  rw [IntKind.wrap_u8']; omega
theorem and_ (x y : BitVec 8) : bits .and .u8 (x.toNat : Int) (y.toNat : Int) = ((x &&& y).toNat : Int) := by
  show IntKind.u8.wrap ((BitVec.ofInt 8 (x.toNat : Int) &&& BitVec.ofInt 8 (y.toNat : Int)).toNat : Int) = _
  rw [ofInt_, ofInt_, wrap_]
theorem or_ (x y : BitVec 8) : bits .or .u8 (x.toNat : Int) (y.toNat : Int) = ((x ||| y).toNat : Int) := by
  show IntKind.u8.wrap ((BitVec.ofInt 8 (x.toNat : Int) ||| BitVec.ofInt 8 (y.toNat : Int)).toNat : Int) = _
  rw [ofInt_, ofInt_, wrap_]
theorem xor_ (x y : BitVec 8) : bits .xor .u8 (x.toNat : Int) (y.toNat : Int) = ((x ^^^ y).toNat : Int) := by
  show IntKind.u8.wrap ((BitVec.ofInt 8 (x.toNat : Int) ^^^ BitVec.ofInt 8 (y.toNat : Int)).toNat : Int) = _
  rw [ofInt_, ofInt_, wrap_]
theorem andNot_ (x y : BitVec 8) : bits .andNot .u8 (x.toNat : Int) (y.toNat : Int) = ((x &&& ~~~y).toNat : Int) := by
  show IntKind.u8.wrap ((BitVec.ofInt 8 (x.toNat : Int) &&& ~~~BitVec.ofInt 8 (y.toNat : Int)).toNat : Int) = _
  rw [ofInt_, ofInt_, wrap_]
theorem lit0 : (0 : Int) = ((0#8 : BitVec 8).toNat : Int) := rfl
theorem lit1 : (1 : Int) = ((1#8 : BitVec 8).toNat : Int) := rfl
theorem lit255 : (255 : Int) = ((~~~(0#8) : BitVec 8).toNat : Int) := rfl
theorem lit128 : (128 : Int) = ((128#8 : BitVec 8).toNat : Int) := rfl
/-- A test of two bytes. -/
theorem eq_ (x y : BitVec 8) : ((x.toNat : Int) == (y.toNat : Int)) = (x == y) := by
  rw [Bool.eq_iff_iff, beq_iff_eq, beq_iff_eq]
  constructor
  · intro h; exact BitVec.eq_of_toNat_eq (by omega)
  · intro h; rw [h]
theorem ieq_ {x y : BitVec 8} : ((x.toNat : Int) = (y.toNat : Int)) ↔ x = y :=
  ⟨fun h => BitVec.eq_of_toNat_eq (by omega), fun h => by rw [h]⟩
theorem cast_ {x y : BitVec 8} (h : x = y) : (x.toNat : Int) = (y.toNat : Int) := by rw [h]
/-- Every number from 0 to 255 is a byte. -/
theorem of_ {x : Int} (h : (Lit.int .u8 x).wf = true) : ∃ b : BitVec 8, x = (b.toNat : Int) := by
  have hmin : IntKind.u8.min = 0 := rfl
  have hmax : IntKind.u8.max = 255 := rfl
  simp only [Lit.wf, Bool.and_eq_true, decide_eq_true_eq] at h
  exact ⟨BitVec.ofNat 8 x.toNat, by rw [BitVec.toNat_ofNat]; omega⟩

/-! ### The functions of the chapter, on bits -/
def andV (v u : BitVec 8) : BitVec 8 := v &&& u
def orV (v u : BitVec 8) : BitVec 8 := v ||| u
def xorV (v u : BitVec 8) : BitVec 8 := v ^^^ u
def xorT (t s : BitVec 8) : BitVec 8 := t ||| s
theorem and_V (x y : BitVec 8) : bits .and .u8 (x.toNat : Int) (y.toNat : Int) = ((andV x y).toNat : Int) := and_ x y
theorem or_V (x y : BitVec 8) : bits .or .u8 (x.toNat : Int) (y.toNat : Int) = ((orV x y).toNat : Int) := or_ x y
theorem xor_V (x y : BitVec 8) : bits .xor .u8 (x.toNat : Int) (y.toNat : Int) = ((xorV x y).toNat : Int) := xor_ x y
def sameB (v t u s : BitVec 8) : Bool := t == s && ((v ^^^ u) &&& ~~~t) == 0#8
def andT (v t u s : BitVec 8) : BitVec 8 := (t &&& (s ||| u)) ||| (s &&& (t ||| v))
def orT (v t u s : BitVec 8) : BitVec 8 := (t &&& (s ||| ~~~u)) ||| (s &&& (t ||| ~~~v))
def zeroV (v : BitVec 8) : Bool := v == 0#8
def zeroT (v t : BitVec 8) : Bool := t != 0#8 && (v &&& ~~~t) == 0#8
def bitB (x : BitVec 8) (i : Nat) : Bool := x.getLsbD i
def oneAt (b : Bool) (i : Nat) : BitVec 8 := if b then 1#8 <<< i else 0#8
def putB (x : BitVec 8) (i : Nat) (b : Bool) : BitVec 8 := (x &&& ~~~(1#8 <<< i)) ||| oneAt b i
def leftB (x : BitVec 8) (b : Bool) : BitVec 8 := (x <<< 1) ||| oneAt b 0
def rightB (x : BitVec 8) (b : Bool) : BitVec 8 := (x >>> 1) ||| oneAt b 7
def spreadB (t : BitVec 8) : BitVec 8 := if t = 0#8 then 0#8 else ~~~0#8 <<< Lib.trailingZeros8 t.toNat

/-! ### The raw terms of the walks -/
theorem and_raw (v t u s : BitVec 8) :
    bits .or .u8 (bits .and .u8 (t.toNat : Int) (bits .or .u8 (s.toNat : Int) (bits .xor .u8 (bits .and .u8 0 (u.toNat : Int)) (bits .and .u8 255 (u.toNat : Int)))))
      (bits .and .u8 (s.toNat : Int) (bits .or .u8 (t.toNat : Int) (bits .xor .u8 (bits .and .u8 0 (v.toNat : Int)) (bits .and .u8 255 (v.toNat : Int))))) = ((andT v t u s).toNat : Int) := by
  rw [lit0, lit255]
  simp only [and_, or_, xor_]
  refine cast_ ?_
  unfold andT
  ext i hi; simp only [BitVec.getElem_and, BitVec.getElem_or, BitVec.getElem_xor, BitVec.getElem_not, BitVec.getElem_zero]
  cases v[i] <;> cases t[i] <;> cases u[i] <;> cases s[i] <;> rfl
theorem or_raw (v t u s : BitVec 8) :
    bits .or .u8 (bits .and .u8 (t.toNat : Int) (bits .or .u8 (s.toNat : Int) (bits .xor .u8 (bits .or .u8 0 (u.toNat : Int)) (bits .or .u8 255 (u.toNat : Int)))))
      (bits .and .u8 (s.toNat : Int) (bits .or .u8 (t.toNat : Int) (bits .xor .u8 (bits .or .u8 0 (v.toNat : Int)) (bits .or .u8 255 (v.toNat : Int))))) = ((orT v t u s).toNat : Int) := by
  rw [lit0, lit255]
  simp only [and_, or_, xor_]
  refine cast_ ?_
  unfold orT
  ext i hi; simp only [BitVec.getElem_and, BitVec.getElem_or, BitVec.getElem_xor, BitVec.getElem_not, BitVec.getElem_zero]
  cases v[i] <;> cases t[i] <;> cases u[i] <;> cases s[i] <;> rfl
theorem xor_raw (v t u s : BitVec 8) :
    bits .or .u8 (bits .and .u8 (t.toNat : Int) (bits .or .u8 (s.toNat : Int) (bits .xor .u8 (bits .xor .u8 0 (u.toNat : Int)) (bits .xor .u8 255 (u.toNat : Int)))))
      (bits .and .u8 (s.toNat : Int) (bits .or .u8 (t.toNat : Int) (bits .xor .u8 (bits .xor .u8 0 (v.toNat : Int)) (bits .xor .u8 255 (v.toNat : Int))))) = ((xorT t s).toNat : Int) := by
  rw [lit0, lit255]
  simp only [and_, or_, xor_]
  refine cast_ ?_
  unfold xorT
  ext i hi; simp only [BitVec.getElem_and, BitVec.getElem_or, BitVec.getElem_xor, BitVec.getElem_not, BitVec.getElem_zero]
  cases v[i] <;> cases t[i] <;> cases u[i] <;> cases s[i] <;> rfl
theorem same_no {v t u s : BitVec 8} (h : ¬ (t.toNat : Int) = (s.toNat : Int)) : sameB v t u s = false := by
  unfold sameB
  rw [Bool.and_eq_false_iff]; left
  rw [beq_eq_false_iff_ne]; intro e; exact h (by rw [e])
theorem same_yes {v t u s : BitVec 8} (h : (t.toNat : Int) = (s.toNat : Int)) : (bits .andNot .u8 (bits .xor .u8 (v.toNat : Int) (u.toNat : Int)) (s.toNat : Int) == 0) = sameB v t u s := by
  obtain rfl := ieq_.1 h
  rw [lit0]
  simp only [xor_, andNot_, eq_]
  unfold sameB
  rw [beq_self_eq_true, Bool.true_and]
theorem same_refl (v t : BitVec 8) : sameB v t v t = true := by
  unfold sameB
  rw [beq_self_eq_true, Bool.true_and, beq_iff_eq]
  ext i hi; simp only [BitVec.getElem_and, BitVec.getElem_xor, BitVec.getElem_not, BitVec.getElem_zero]
  cases v[i] <;> cases t[i] <;> rfl
theorem zero_v (v : BitVec 8) : ((v.toNat : Int) == 0) = zeroV v := eq_ v 0#8
theorem zero_t (v t : BitVec 8) (_h : ¬ (t.toNat : Int) = 0) : (((t.toNat : Int) != 0) && (bits .andNot .u8 (v.toNat : Int) (t.toNat : Int) == 0)) = zeroT v t := by
  rw [lit0, andNot_, eq_]
  unfold zeroT
  have e : ((t.toNat : Int) != (((0#8 : BitVec 8).toNat : Nat) : Int)) = (t != 0#8) := by
    unfold bne; rw [eq_]
  rw [e]
theorem zero_n (v t : BitVec 8) (h : (t.toNat : Int) = 0) : false = zeroT v t := by
  have e : t = 0#8 := ieq_.1 h
  subst e; unfold zeroT; simp
end U8
end Go.Proofs.YtodfgcbgiaboiaaDoor
