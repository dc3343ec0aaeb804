/- Plain facts on numbers of so many bits. -/
import Derived.Test.YtihbdelgoapeoaaF0
namespace Go.Proofs.Ytihbdelgoapeoaa.T
open Go F
set_option linter.unusedVariables false
set_option linter.unusedSimpArgs false

theorem wi64 {n : Int} (h0 : -9223372036854775808 ≤ n) (h1 : n ≤ 9223372036854775807) : IntKind.wrap .i64 n = n := IntWalk.i64_in n ⟨h0, h1⟩
theorem wi32 {n : Int} (h0 : -2147483648 ≤ n) (h1 : n ≤ 2147483647) : IntKind.wrap .i32 n = n := IntWalk.i32_in n ⟨h0, h1⟩
theorem wu8 {n : Int} (h0 : 0 ≤ n) (h1 : n ≤ 255) : IntKind.wrap .u8 n = n := IntWalk.u8_in n ⟨h0, h1⟩
theorem wu8_mod (n : Int) : IntKind.wrap .u8 n = n % 256 := by rw [IntKind.wrap_u8]
theorem wu8_rng (n : Int) : 0 ≤ IntKind.wrap .u8 n ∧ IntKind.wrap .u8 n < 256 := by rw [IntKind.wrap_u8]; omega

theorem bv_nat (w : Nat) (n : Nat) : (BitVec.ofInt w (n : Int)).toNat = n % 2 ^ w := by
  rw [BitVec.toNat_ofInt]
  rw [← Int.natCast_emod, Int.toNat_natCast]
/-- and with a row of ones -/
theorem band_low {k : IntKind} {a : Int} (j : Nat) (h0 : 0 ≤ a) (hj : j < k.bits) (hm : ((2 : Int) ^ j - 1) ≤ k.max) : band k a (2 ^ j - 1) = a % 2 ^ j := by
  obtain ⟨n, rfl⟩ := Int.eq_ofNat_of_zero_le h0
  have e : ((2 : Int) ^ j - 1) = ((2 ^ j - 1 : Nat) : Int) := by
    have : 1 ≤ 2 ^ j := Nat.one_le_two_pow
    simp [Int.ofNat_sub this]
  unfold band
  rw [e, BitVec.toNat_and, bv_nat, bv_nat]
  have h1 : (2 ^ j - 1) % 2 ^ k.bits = 2 ^ j - 1 := Nat.mod_eq_of_lt (by
    have h7 := Nat.pow_lt_pow_right (a := 2) (by decide) hj
    have h8 : 1 ≤ 2 ^ j := Nat.one_le_two_pow
    omega)
  rw [h1, Nat.and_two_pow_sub_one_eq_mod, Nat.mod_mod_of_dvd _ (Nat.pow_dvd_pow 2 (Nat.le_of_lt hj))]
  have h2 : ((n % 2 ^ j : Nat) : Int) = (n : Int) % 2 ^ j := by simp
  rw [h2]
  have h3 : (n : Int) % 2 ^ j < 2 ^ j := Int.emod_lt_of_pos _ (Int.pow_pos (by decide))
  have h4 : 0 ≤ (n : Int) % 2 ^ j := Int.emod_nonneg _ (Int.ne_of_gt (Int.pow_pos (by decide)))
  generalize (n : Int) % 2 ^ j = m at h3 h4
  have h5 : m ≤ k.max := by omega
  cases k <;> simp only [IntKind.max, IntKind.bits, IntKind.signed] at h5
  · exact IntWalk.i8_in m ⟨by omega, by simpa using h5⟩
  · exact IntWalk.i16_in m ⟨by omega, by simpa using h5⟩
  · exact IntWalk.i32_in m ⟨by omega, by simpa using h5⟩
  · exact IntWalk.i64_in m ⟨by omega, by simpa using h5⟩
  · exact IntWalk.u8_in m ⟨by omega, by simpa using h5⟩
  · exact IntWalk.u16_in m ⟨by omega, by simpa using h5⟩
  · exact IntWalk.u32_in m ⟨by omega, by simpa using h5⟩
  · exact IntWalk.u64_in m ⟨by omega, by simpa using h5⟩

theorem band63_i32 {a : Int} (h : 0 ≤ a) : band .i32 a 63 = a % 64 := band_low (k := .i32) 6 h (by decide) (by decide)
theorem band1_i32 {a : Int} (h : 0 ≤ a) : band .i32 a 1 = a % 2 := band_low (k := .i32) 1 h (by decide) (by decide)
theorem band63_u8 {a : Int} (h : 0 ≤ a) : band .u8 a 63 = a % 64 := band_low (k := .u8) 6 h (by decide) (by decide)
theorem band31_u8 {a : Int} (h : 0 ≤ a) : band .u8 a 31 = a % 32 := band_low (k := .u8) 5 h (by decide) (by decide)
theorem band15_u8 {a : Int} (h : 0 ≤ a) : band .u8 a 15 = a % 16 := band_low (k := .u8) 4 h (by decide) (by decide)
theorem band7_u8 {a : Int} (h : 0 ≤ a) : band .u8 a 7 = a % 8 := band_low (k := .u8) 3 h (by decide) (by decide)
theorem band127_u64 {a : Int} (h : 0 ≤ a) : band .u64 a 127 = a % 128 := band_low (k := .u64) 7 h (by decide) (by decide)
theorem band127_u8 {a : Int} (h : 0 ≤ a) : band .u8 a 127 = a % 128 := band_low (k := .u8) 7 h (by decide) (by decide)
theorem band_i64 {a : Int} (j : Nat) (h : 0 ≤ a) (hj : j < 64) (hm : ((2 : Int) ^ j - 1) ≤ IntKind.max .i64) : band .i64 a (2 ^ j - 1) = a % 2 ^ j := band_low (k := .i64) j h hj hm
theorem all256 {p : Int → Prop} (h : ∀ n : Fin 256, p (n.val : Int)) {a : Int} (h0 : 0 ≤ a) (h1 : a < 256) : p a := by
  obtain ⟨n, rfl⟩ := Int.eq_ofNat_of_zero_le h0
  exact h ⟨n, by omega⟩
theorem band192 {a : Int} (h0 : 0 ≤ a) (h1 : a < 256) : (band .u8 a 192 = 128) ↔ (128 ≤ a ∧ a < 192) := by
  have : ∀ n : Fin 256, (band .u8 (n.val : Int) 192 = 128) ↔ (128 ≤ (n.val : Int) ∧ (n.val : Int) < 192) := by decide +kernel
  exact all256 (p := fun a => (band .u8 a 192 = 128) ↔ (128 ≤ a ∧ a < 192)) this h0 h1
theorem bor128 {a : Int} (h0 : 0 ≤ a) (h1 : a < 64) : bor .u8 128 a = 128 + a := by
  have : ∀ n : Fin 256, (n.val : Int) < 64 → bor .u8 128 (n.val : Int) = 128 + (n.val : Int) := by decide +kernel
  exact all256 (p := fun a => a < 64 → bor .u8 128 a = 128 + a) this h0 (by omega) h1
theorem bor192 {a : Int} (h0 : 0 ≤ a) (h1 : a < 32) : bor .u8 192 a = 192 + a := by
  have : ∀ n : Fin 256, (n.val : Int) < 32 → bor .u8 192 (n.val : Int) = 192 + (n.val : Int) := by decide +kernel
  exact all256 (p := fun a => a < 32 → bor .u8 192 a = 192 + a) this h0 (by omega) h1
theorem bor224 {a : Int} (h0 : 0 ≤ a) (h1 : a < 16) : bor .u8 224 a = 224 + a := by
  have : ∀ n : Fin 256, (n.val : Int) < 16 → bor .u8 224 (n.val : Int) = 224 + (n.val : Int) := by decide +kernel
  exact all256 (p := fun a => a < 16 → bor .u8 224 a = 224 + a) this h0 (by omega) h1
theorem bor240 {a : Int} (h0 : 0 ≤ a) (h1 : a < 8) : bor .u8 240 a = 240 + a := by
  have : ∀ n : Fin 256, (n.val : Int) < 8 → bor .u8 240 (n.val : Int) = 240 + (n.val : Int) := by decide +kernel
  exact all256 (p := fun a => a < 8 → bor .u8 240 a = 240 + a) this h0 (by omega) h1
/-- a number's digits laid behind others -/
theorem bor_shl_i32 {a b : Int} (h0 : 0 ≤ a) (h1 : a < 16777216) (h2 : 0 ≤ b) (h3 : b < 64) : bor .i32 (bshl .i32 a 6) b = a * 64 + b := by
  obtain ⟨n, rfl⟩ := Int.eq_ofNat_of_zero_le h0
  obtain ⟨m, rfl⟩ := Int.eq_ofNat_of_zero_le h2
  have e1 : bshl .i32 (n : Int) 6 = ((n * 64 : Nat) : Int) := by
    show IntKind.wrap .i32 ((n : Int) * 2 ^ (min (6 : Int).toNat 32)) = _
    rw [show (min (6 : Int).toNat 32) = 6 from rfl]
    have : ((n : Int) * 2 ^ 6) = ((n * 64 : Nat) : Int) := by simp
    rw [this]
    exact wi32 (by omega) (by omega)
  rw [e1]
  unfold bor
  rw [BitVec.toNat_or, bv_nat, bv_nat]
  have hb : IntKind.bits .i32 = 32 := rfl
  rw [hb, Nat.mod_eq_of_lt (show n * 64 < 2 ^ 32 by omega), Nat.mod_eq_of_lt (show m < 2 ^ 32 by omega)]
  have h5 := Nat.shiftLeft_add_eq_or_of_lt (b := m) (i := 6) (by omega) n
  rw [Nat.shiftLeft_eq] at h5
  have h6 : n * 64 ||| m = n * 64 + m := h5.symm
  rw [h6]
  exact (wi32 (by omega) (by omega)).trans (by omega)
theorem bshr_eq {k : IntKind} {a : Int} (j : Nat) (hj : j ≤ k.bits) (h0 : 0 ≤ a) : bshr k a (j : Int) = a / 2 ^ j := by
  unfold bshr
  simp only [Int.toNat_natCast]
  rw [Nat.min_eq_left hj]
  exact Int.fdiv_eq_ediv_of_nonneg _ (Int.le_of_lt (Int.pow_pos (by decide)))
theorem bshr6 {a : Int} (h0 : 0 ≤ a) : bshr .i32 a 6 = a / 64 := bshr_eq (k := .i32) 6 (by decide) h0
theorem bshr12 {a : Int} (h0 : 0 ≤ a) : bshr .i32 a 12 = a / 4096 := bshr_eq (k := .i32) 12 (by decide) h0
theorem bshr18 {a : Int} (h0 : 0 ≤ a) : bshr .i32 a 18 = a / 262144 := bshr_eq (k := .i32) 18 (by decide) h0

theorem tdivp {a b : Int} (h : 0 ≤ a) : Int.tdiv a b = a / b := Int.tdiv_eq_ediv_of_nonneg h
theorem tmodp {a b : Int} (h : 0 ≤ a) : Int.tmod a b = a % b := Int.tmod_eq_emod_of_nonneg h
end Go.Proofs.Ytihbdelgoapeoaa.T
