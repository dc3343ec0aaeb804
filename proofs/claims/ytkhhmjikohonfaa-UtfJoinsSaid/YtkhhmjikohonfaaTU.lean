/- Texts and their signs, plainly. -/
import Derived.Test.YtkhhmjikohonfaaTA
import Derived.Test.YtkhhmjikohonfaaGP
namespace Go.Proofs.Ytkhhmjikohonfaa.T
open Go F
set_option linter.unusedVariables false
set_option linter.unusedSimpArgs false
set_option maxHeartbeats 1000000
set_option maxRecDepth 20000

def isSign (r : Int) : Prop := 0 ≤ r ∧ r ≤ 1114111 ∧ (r < 55296 ∨ 57343 < r)
instance (r : Int) : Decidable (isSign r) := by unfold isSign; infer_instance
def enc (r : Int) : Str :=
  if r < 128 then [u8 r] else if r < 2048 then [u8 (192 + r / 64), u8 (128 + r % 64)]
  else if r < 65536 then [u8 (224 + r / 4096), u8 (128 + r / 64 % 64), u8 (128 + r % 64)]
  else [u8 (240 + r / 262144), u8 (128 + r / 4096 % 64), u8 (128 + r / 64 % 64), u8 (128 + r % 64)]
abbrev iv (b : UInt8) : Int := (b.toNat : Int)
theorem iv_rng (b : UInt8) : 0 ≤ iv b ∧ iv b < 256 := by have := b.toNat_lt; unfold iv; omega
theorem iv_u8 {n : Int} (h0 : 0 ≤ n) (h1 : n < 256) : iv (u8 n) = n := u8_toNat h0 h1
theorem u8_iv (b : UInt8) : u8 (iv b) = b := u8_of b
def cont (b : UInt8) : Prop := 128 ≤ iv b ∧ iv b < 192
instance (b : UInt8) : Decidable (cont b) := by unfold cont; infer_instance
def fin3 (r : Int) : Option (Int × Int) := if r < 2048 ∨ (55296 ≤ r ∧ r ≤ 57343) then none else some (r, 3)
def fin4 (r : Int) : Option (Int × Int) := if r < 65536 ∨ r > 1114111 then none else some (r, 4)
def dec2 (x : Int) : Str → Option (Int × Int)
  | b :: _ => if cont b then some (x % 32 * 64 + iv b % 64, 2) else none
  | [] => none
def dec3 (x : Int) : Str → Option (Int × Int)
  | b :: c :: _ => if cont b ∧ cont c then fin3 ((x % 16 * 64 + iv b % 64) * 64 + iv c % 64) else none
  | _ => none
def dec4 (x : Int) : Str → Option (Int × Int)
  | b :: c :: d :: _ => if cont b ∧ cont c ∧ cont d then fin4 (((x % 8 * 64 + iv b % 64) * 64 + iv c % 64) * 64 + iv d % 64) else none
  | _ => none
def dec1 (x : Int) (t : Str) : Option (Int × Int) :=
  if x < 128 then some (x, 1) else if 194 ≤ x ∧ x ≤ 223 then dec2 x t else if 224 ≤ x ∧ x ≤ 239 then dec3 x t else if 240 ≤ x ∧ x ≤ 244 then dec4 x t else none
def dec : Str → Option (Int × Int)
  | [] => none
  | a :: t => dec1 (iv a) t
theorem dec_cons (a : UInt8) (t : Str) : dec (a :: t) = dec1 (iv a) t := rfl
theorem d2 (x : Int) (b : UInt8) (t : Str) : dec2 x (b :: t) = if cont b then some (x % 32 * 64 + iv b % 64, 2) else none := rfl
theorem d3 (x : Int) (b c : UInt8) (t : Str) : dec3 x (b :: c :: t) = if cont b ∧ cont c then fin3 ((x % 16 * 64 + iv b % 64) * 64 + iv c % 64) else none := rfl
theorem d4 (x : Int) (b c d : UInt8) (t : Str) : dec4 x (b :: c :: d :: t) = if cont b ∧ cont c ∧ cont d then fin4 (((x % 8 * 64 + iv b % 64) * 64 + iv c % 64) * 64 + iv d % 64) else none := rfl

theorem enc_pos (r : Int) : 0 < (enc r).length := by unfold enc; split <;> (try split) <;> (try split) <;> simp
theorem enc_le (r : Int) : (enc r).length ≤ 4 := by unfold enc; split <;> (try split) <;> (try split) <;> simp
theorem cont_u8 {n : Int} (h0 : 0 ≤ n) (h1 : n < 64) : cont (u8 (128 + n)) := by unfold cont; rw [iv_u8 (by omega) (by omega)]; omega
theorem dec_enc {r : Int} (h : isSign r) (t : Str) : dec (enc r ++ t) = some (r, ((enc r).length : Int)) := by
  obtain ⟨h0, h1, h2⟩ := h
  unfold enc
  split
  · simp only [List.cons_append, List.nil_append]
    rw [dec_cons, dec1, iv_u8 h0 (by omega), if_pos (by omega)]
    simp
  · split
    · simp only [List.cons_append, List.nil_append]
      rw [dec_cons, dec1, iv_u8 (by omega) (by omega), if_neg (by omega), if_pos (by omega), d2, if_pos (cont_u8 (by omega) (by omega)), iv_u8 (by omega) (by omega)]
      simp; omega
    · split
      · simp only [List.cons_append, List.nil_append]
        rw [dec_cons, dec1, iv_u8 (by omega) (by omega), if_neg (by omega), if_neg (by omega), if_pos (by omega), d3, if_pos ⟨cont_u8 (by omega) (by omega), cont_u8 (by omega) (by omega)⟩, iv_u8 (by omega) (by omega), iv_u8 (by omega) (by omega)]
        have e : (((224 + r / 4096) % 16 * 64 + (128 + r / 64 % 64) % 64) * 64 + (128 + r % 64) % 64) = r := by omega
        rw [e, fin3, if_neg (by omega)]
        simp
      · simp only [List.cons_append, List.nil_append]
        rw [dec_cons, dec1, iv_u8 (by omega) (by omega), if_neg (by omega), if_neg (by omega), if_neg (by omega), if_pos (by omega), d4, if_pos ⟨cont_u8 (by omega) (by omega), cont_u8 (by omega) (by omega), cont_u8 (by omega) (by omega)⟩, iv_u8 (by omega) (by omega), iv_u8 (by omega) (by omega), iv_u8 (by omega) (by omega)]
        have e : ((((240 + r / 262144) % 8 * 64 + (128 + r / 4096 % 64) % 64) * 64 + (128 + r / 64 % 64) % 64) * 64 + (128 + r % 64) % 64) = r := by omega
        rw [e, fin4, if_neg (by omega)]
        simp
theorem u8_eq {n : Int} {b : UInt8} (h : n = iv b) : u8 n = b := by rw [h, u8_iv]
theorem dec_some {s : Str} {r n : Int} (h : dec s = some (r, n)) : isSign r ∧ n = ((enc r).length : Int) ∧ ∃ t, s = enc r ++ t := by
  cases s with
  | nil => cases h
  | cons a t =>
    have ha := iv_rng a
    rw [dec_cons, dec1] at h
    by_cases h1 : iv a < 128
    · rw [if_pos h1] at h
      cases h
      have e : enc (iv a) = [a] := by unfold enc; rw [if_pos h1, u8_iv]
      exact ⟨⟨by omega, by omega, by omega⟩, by rw [e]; rfl, t, by rw [e]; rfl⟩
    rw [if_neg h1] at h
    by_cases h2 : 194 ≤ iv a ∧ iv a ≤ 223
    · rw [if_pos h2] at h
      match t, h with
      | [], h => cases h
      | b :: t', h =>
        have hb := iv_rng b
        rw [d2] at h
        by_cases hc : cont b
        · rw [if_pos hc] at h
          cases h
          unfold cont at hc
          have e : enc (iv a % 32 * 64 + iv b % 64) = [a, b] := by
            unfold enc
            rw [if_neg (by omega), if_pos (by omega), u8_eq (b := a) (by omega), u8_eq (b := b) (by omega)]
          exact ⟨⟨by omega, by omega, by omega⟩, by rw [e]; rfl, t', by rw [e]; rfl⟩
        · rw [if_neg hc] at h; cases h
    rw [if_neg h2] at h
    by_cases h3 : 224 ≤ iv a ∧ iv a ≤ 239
    · rw [if_pos h3] at h
      match t, h with
      | [], h => cases h
      | [b], h => cases h
      | b :: c :: t', h =>
        have hb := iv_rng b
        have hc' := iv_rng c
        rw [d3] at h
        by_cases hc : cont b ∧ cont c
        · rw [if_pos hc] at h
          unfold cont at hc
          unfold fin3 at h
          by_cases hf : (iv a % 16 * 64 + iv b % 64) * 64 + iv c % 64 < 2048 ∨ (55296 ≤ (iv a % 16 * 64 + iv b % 64) * 64 + iv c % 64 ∧ (iv a % 16 * 64 + iv b % 64) * 64 + iv c % 64 ≤ 57343)
          · rw [if_pos hf] at h; cases h
          · rw [if_neg hf] at h
            cases h
            have e : enc ((iv a % 16 * 64 + iv b % 64) * 64 + iv c % 64) = [a, b, c] := by
              unfold enc
              rw [if_neg (by omega), if_neg (by omega), if_pos (by omega), u8_eq (b := a) (by omega), u8_eq (b := b) (by omega), u8_eq (b := c) (by omega)]
            exact ⟨⟨by omega, by omega, by omega⟩, by rw [e]; rfl, t', by rw [e]; rfl⟩
        · rw [if_neg hc] at h; cases h
    rw [if_neg h3] at h
    by_cases h4 : 240 ≤ iv a ∧ iv a ≤ 244
    · rw [if_pos h4] at h
      match t, h with
      | [], h => cases h
      | [b], h => cases h
      | [b, c], h => cases h
      | b :: c :: d :: t', h =>
        have hb := iv_rng b
        have hc' := iv_rng c
        have hd' := iv_rng d
        rw [d4] at h
        by_cases hc : cont b ∧ cont c ∧ cont d
        · rw [if_pos hc] at h
          unfold cont at hc
          unfold fin4 at h
          by_cases hf : ((iv a % 8 * 64 + iv b % 64) * 64 + iv c % 64) * 64 + iv d % 64 < 65536 ∨ ((iv a % 8 * 64 + iv b % 64) * 64 + iv c % 64) * 64 + iv d % 64 > 1114111
          · rw [if_pos hf] at h; cases h
          · rw [if_neg hf] at h
            cases h
            have e : enc (((iv a % 8 * 64 + iv b % 64) * 64 + iv c % 64) * 64 + iv d % 64) = [a, b, c, d] := by
              unfold enc
              rw [if_neg (by omega), if_neg (by omega), if_neg (by omega), u8_eq (b := a) (by omega), u8_eq (b := b) (by omega), u8_eq (b := c) (by omega), u8_eq (b := d) (by omega)]
            exact ⟨⟨by omega, by omega, by omega⟩, by rw [e]; rfl, t', by rw [e]; rfl⟩
        · rw [if_neg hc] at h; cases h
    · rw [if_neg h4] at h; cases h

/-! ### What the program's functions come to -/
theorem head_ok : F.law02_head = some true := by decide +kernel
theorem sign_eq (r : Int) : F.law02_sign r = some (decide (isSign r)) := by
  unfold F.law02_sign isSign
  by_cases h0 : 0 ≤ r <;> by_cases h1 : r ≤ 1114111 <;> by_cases h2 : r < 55296 <;> by_cases h3 : 57343 < r <;> simp [h0, h1, h2, h3]
theorem b1_eq {k n : Int} (hk : 0 < k) (h0 : 0 ≤ n) (h1 : n ≤ 1114111) : F.law02_bytes_1 k n = some (128 + n / k % 64) := by
  have h2 : 0 ≤ n / k := Int.ediv_nonneg h0 (Int.le_of_lt hk)
  have h3 : n / k ≤ n := Int.ediv_le_self k h0
  unfold F.law02_bytes_1 nz
  rw [if_neg (by omega)]
  simp only [Option.bind_some]
  rw [tdivp h0, wi64 (n := n / k) (by omega) (by omega), tmodp h2, wi64 (by omega) (by omega), wu8 (by omega) (by omega)]
theorem bytes_eq {r : Int} (h : isSign r) : F.law02_bytes r = some (enc r) := by
  obtain ⟨h0, h1, _⟩ := h
  unfold F.law02_bytes enc
  rw [wi64 (by omega) (by omega)]
  by_cases g1 : r < 128
  · simp only [g1, decide_true, if_true]
    rw [wu8 (by omega) (by omega)]
  · by_cases g2 : r < 2048
    · simp only [g1, g2, decide_true, decide_false, if_true, if_false, Bool.false_eq_true]
      rw [b1_eq (by omega) h0 h1]
      simp only [Option.bind_some]
      rw [tdivp h0, wi64 (n := r / 64) (by omega) (by omega), wi64 (by omega) (by omega), wu8 (by omega) (by omega), Int.ediv_one]
    · by_cases g3 : r < 65536
      · simp only [g1, g2, g3, decide_true, decide_false, if_true, if_false, Bool.false_eq_true]
        rw [b1_eq (by omega) h0 h1, b1_eq (by omega) h0 h1]
        simp only [Option.bind_some]
        rw [tdivp h0, wi64 (n := r / 4096) (by omega) (by omega), wi64 (by omega) (by omega), wu8 (by omega) (by omega), Int.ediv_one]
      · simp only [g1, g2, g3, decide_true, decide_false, if_true, if_false, Bool.false_eq_true]
        rw [b1_eq (by omega) h0 h1, b1_eq (by omega) h0 h1, b1_eq (by omega) h0 h1]
        simp only [Option.bind_some]
        rw [tdivp h0, wi64 (n := r / 262144) (by omega) (by omega), wi64 (by omega) (by omega), wu8 (by omega) (by omega), Int.ediv_one]
theorem put_eq (b : Str) (r : Int) : F.utf_Put b r = if isSign r then lapp b (enc r) else some b := by
  by_cases h : isSign r
  · rw [if_pos h]
    obtain ⟨h0, h1, h2⟩ := h
    have c1 : decide (r < 0) = false := decide_eq_false (by omega)
    have c2 : decide (r > 1114111) = false := decide_eq_false (by omega)
    have c3 : (decide (r ≥ 55296) && decide (r ≤ 57343)) = false := by simp; omega
    unfold F.utf_Put enc
    simp only [c1, c2, c3, Bool.or_false, Option.bind_some, Bool.false_eq_true, if_false]
    by_cases g1 : r < 128
    · simp only [g1, decide_true, if_true]
      rw [wu8 (by omega) (by omega)]
      simp
    · by_cases g2 : r < 2048
      · simp only [g1, g2, decide_true, decide_false, if_true, if_false, Bool.false_eq_true]
        rw [bshr6 h0, band63_i32 h0, wu8 (n := r / 64) (by omega) (by omega), wu8 (n := r % 64) (by omega) (by omega), bor192 (by omega) (by omega), bor128 (by omega) (by omega)]
        simp
      · by_cases g3 : r < 65536
        · simp only [g1, g2, g3, decide_true, decide_false, if_true, if_false, Bool.false_eq_true]
          rw [bshr6 h0, bshr12 h0, band63_i32 h0, band63_i32 (by omega), wu8 (n := r / 4096) (by omega) (by omega), wu8 (n := r / 64 % 64) (by omega) (by omega), wu8 (n := r % 64) (by omega) (by omega), bor224 (by omega) (by omega), bor128 (by omega) (by omega), bor128 (by omega) (by omega)]
          simp
        · simp only [g1, g2, g3, decide_true, decide_false, if_true, if_false, Bool.false_eq_true]
          rw [bshr6 h0, bshr12 h0, bshr18 h0, band63_i32 h0, band63_i32 (by omega), band63_i32 (by omega), wu8 (n := r / 262144) (by omega) (by omega), wu8 (n := r / 4096 % 64) (by omega) (by omega), wu8 (n := r / 64 % 64) (by omega) (by omega), wu8 (n := r % 64) (by omega) (by omega), bor240 (by omega) (by omega), bor128 (by omega) (by omega), bor128 (by omega) (by omega), bor128 (by omega) (by omega)]
          simp
  · rw [if_neg h]
    unfold isSign at h
    unfold F.utf_Put
    by_cases c1 : r < 0
    · simp [c1]
    · by_cases c2 : r > 1114111
      · simp [c2]
      · have c3 : (decide (r ≥ 55296) && decide (r ≤ 57343)) = true := by simp; omega
        simp [c1, c2, c3]

/-! ### The first sign -/
theorem l2_go {s : Str} {n low r0 r k x : Int} (k' : Int) (hk' : k + 1 = k') (hk : k < n) (hk0 : 0 ≤ k) (hk4 : k ≤ 4) (hs : sget s k = some x) (hx : 128 ≤ x ∧ x < 192) (h0 : 0 ≤ r) (h1 : r < 16777216) : F.utf_Next_l2 s (n, low, r0) (r, k) = F.utf_Next_l2 s (n, low, r0) (r * 64 + x % 64, k') := by
  subst hk'
  have e1 : band .u8 x 192 = 128 := (band192 (by omega) (by omega)).2 hx
  have hst : F.utf_Next_s2 s (n, low, r0) (r, k) = some (.inl (r * 64 + x % 64, k + 1)) := by
    unfold F.utf_Next_s2
    simp only [hk, decide_true, if_true, hs, Option.bind_some]
    rw [e1]
    simp only [bne_self_eq_false, Bool.false_eq_true, if_false, Option.bind_some]
    rw [band63_u8 (by omega), wi32 (n := x % 64) (by omega) (by omega), bor_shl_i32 h0 h1 (by omega) (by omega), wi64 (n := k + 1) (by omega) (by omega)]
  unfold F.utf_Next_l2
  rw [iter_eq, hst]
  rfl
theorem l2_bad {s : Str} {n low r0 r k x : Int} (hk : k < n) (hs : sget s k = some x) (hx0 : 0 ≤ x) (hx1 : x < 256) (hx : ¬ (128 ≤ x ∧ x < 192)) : F.utf_Next_l2 s (n, low, r0) (r, k) = some (.inr (0, 0)) := by
  have e1 : ¬ (band .u8 x 192 = 128) := fun h => hx ((band192 (by omega) (by omega)).1 h)
  have e2 : (band .u8 x 192 != 128) = true := by simpa using e1
  have hst : F.utf_Next_s2 s (n, low, r0) (r, k) = some (.inr (.inr (0, 0))) := by
    unfold F.utf_Next_s2
    simp only [hk, decide_true, if_true, hs, Option.bind_some]
    rw [e2]
    rfl
  unfold F.utf_Next_l2
  rw [iter_eq, hst]
  rfl
theorem l2_done {s : Str} {n low r0 r k : Int} (hk : n ≤ k) : F.utf_Next_l2 s (n, low, r0) (r, k) = some (.inl r) := by
  have hst : F.utf_Next_s2 s (n, low, r0) (r, k) = some (.inr (.inl r)) := by
    unfold F.utf_Next_s2
    simp [Int.not_lt.2 hk]
  unfold F.utf_Next_l2
  rw [iter_eq, hst]
  rfl
theorem k1_short {s : Str} {n low r : Int} (h : n = 0 ∨ (s.length : Int) < n) : F.utf_Next_k1 s (n, low, r) = some (0, 0) := by
  unfold F.utf_Next_k1
  rcases h with h | h
  · simp [h]
  · simp [h]
theorem k1_inr {s : Str} {n low r : Int} {q : Int × Int} (h : n ≠ 0) (h2 : n ≤ (s.length : Int)) (hl : F.utf_Next_l2 s (n, low, r) (r, 1) = some (.inr q)) : F.utf_Next_k1 s (n, low, r) = some q := by
  unfold F.utf_Next_k1
  simp only [hl, h, Int.not_lt.2 h2, decide_false, Bool.or_false, beq_iff_eq, Option.bind_some]
  simp [h]
theorem k1_inl {s : Str} {n low r v : Int} (h : n ≠ 0) (h2 : n ≤ (s.length : Int)) (hl : F.utf_Next_l2 s (n, low, r) (r, 1) = some (.inl v)) :
    F.utf_Next_k1 s (n, low, r) = some (if v < low ∨ (55296 ≤ v ∧ v ≤ 57343) ∨ v > 1114111 then (0, 0) else (v, n)) := by
  unfold F.utf_Next_k1
  simp only [hl, h, Int.not_lt.2 h2, decide_false, Bool.or_false, beq_iff_eq, Option.bind_some]
  simp only [show (n == 0) = false by simpa using h, Bool.false_eq_true, if_false]
  by_cases c1 : v < low <;> by_cases c2 : v ≥ 55296 <;> by_cases c3 : v ≤ 57343 <;> by_cases c4 : v > 1114111 <;> simp [c1, c2, c3, c4] <;> omega
theorem sget_nat (s : Str) (k : Nat) : sget s (k : Int) = (s[k]?).map iv := by simp [sget]
theorem next_eq (s : Str) : F.utf_Next s = some ((dec s).getD (0, 0)) := by
  cases s with
  | nil => rfl
  | cons a t =>
    have ha := iv_rng a
    have hs0 : sget (a :: t) 0 = some (iv a) := rfl
    unfold F.utf_Next
    have hne : ((a :: t : Str) == []) = false := rfl
    simp only [hne, Bool.false_eq_true, if_false, hs0, Option.bind_some]
    rw [dec_cons, dec1]
    by_cases h1 : iv a < 128
    · simp only [h1, decide_true, if_true]
      rw [wi32 (by omega) (by omega)]
      rfl
    simp only [h1, decide_false, Bool.false_eq_true, if_false]
    by_cases h2 : 194 ≤ iv a ∧ iv a ≤ 223
    · rw [if_pos h2]
      simp only [ge_iff_le, h2.1, h2.2, decide_true, Bool.and_self, if_true]
      rw [band31_u8 (by omega), wi32 (by omega) (by omega)]
      cases t with
      | nil => rw [k1_short (.inr (by simp))]; rfl
      | cons b t =>
        have hb := iv_rng b
        have hs1 : sget (a :: b :: t) 1 = some (iv b) := rfl
        by_cases hc : cont b
        · rw [d2, if_pos hc]
          have hl : F.utf_Next_l2 (a :: b :: t) (2, 128, iv a % 32) (iv a % 32, 1) = some (.inl (iv a % 32 * 64 + iv b % 64)) := by
            rw [l2_go 2 rfl (by omega) (by omega) (by omega) hs1 hc (by omega) (by omega)]
            exact l2_done (by omega)
          rw [k1_inl (by omega) (by simp; omega) hl, if_neg (by unfold cont at hc; omega)]
          rfl
        · rw [d2, if_neg hc]
          rw [k1_inr (by omega) (by simp; omega) (l2_bad (by omega) hs1 hb.1 hb.2 hc)]
          rfl
    rw [if_neg h2]
    have e2 : (decide (iv a ≥ 194) && decide (iv a ≤ 223)) = false := by simp; omega
    rw [e2]
    simp only [Bool.false_eq_true, if_false]
    by_cases h3 : 224 ≤ iv a ∧ iv a ≤ 239
    · rw [if_pos h3]
      simp only [ge_iff_le, h3.1, h3.2, decide_true, Bool.and_self, if_true]
      rw [band15_u8 (by omega), wi32 (by omega) (by omega)]
      match t with
      | [] => rw [k1_short (.inr (by simp))]; rfl
      | [b] => rw [k1_short (.inr (by simp))]; rfl
      | b :: c :: t =>
        have hb := iv_rng b
        have hc' := iv_rng c
        have hs1 : sget (a :: b :: c :: t) 1 = some (iv b) := rfl
        have hs2 : sget (a :: b :: c :: t) 2 = some (iv c) := rfl
        by_cases hc : cont b
        · by_cases hd : cont c
          · have hl : F.utf_Next_l2 (a :: b :: c :: t) (3, 2048, iv a % 16) (iv a % 16, 1) = some (.inl ((iv a % 16 * 64 + iv b % 64) * 64 + iv c % 64)) := by
              rw [l2_go 2 rfl (by omega) (by omega) (by omega) hs1 hc (by omega) (by omega), l2_go 3 rfl (by omega) (by omega) (by omega) hs2 hd (by omega) (by omega)]
              exact l2_done (by omega)
            rw [d3, if_pos (show cont b ∧ cont c from ⟨hc, hd⟩)]
            rw [k1_inl (by omega) (by simp; omega) hl]
            unfold fin3
            split <;> split <;> first | rfl | omega
          · have hl : F.utf_Next_l2 (a :: b :: c :: t) (3, 2048, iv a % 16) (iv a % 16, 1) = some (.inr (0, 0)) := by
              rw [l2_go 2 rfl (by omega) (by omega) (by omega) hs1 hc (by omega) (by omega)]
              exact l2_bad (by omega) hs2 hc'.1 hc'.2 hd
            rw [d3, if_neg (show ¬ (cont b ∧ cont c) from fun h => hd h.2)]
            rw [k1_inr (by omega) (by simp; omega) hl]
            rfl
        · rw [d3, if_neg (show ¬ (cont b ∧ cont c) from fun h => hc h.1)]
          rw [k1_inr (by omega) (by simp; omega) (l2_bad (by omega) hs1 hb.1 hb.2 hc)]
          rfl
    rw [if_neg h3]
    have e3 : (decide (iv a ≥ 224) && decide (iv a ≤ 239)) = false := by simp; omega
    rw [e3]
    simp only [Bool.false_eq_true, if_false]
    by_cases h4 : 240 ≤ iv a ∧ iv a ≤ 244
    · rw [if_pos h4]
      simp only [ge_iff_le, h4.1, h4.2, decide_true, Bool.and_self, if_true]
      rw [band7_u8 (by omega), wi32 (by omega) (by omega)]
      match t with
      | [] => rw [k1_short (.inr (by simp))]; rfl
      | [b] => rw [k1_short (.inr (by simp))]; rfl
      | [b, c] => rw [k1_short (.inr (by simp))]; rfl
      | b :: c :: d :: t =>
        have hb := iv_rng b
        have hc' := iv_rng c
        have hd' := iv_rng d
        have hs1 : sget (a :: b :: c :: d :: t) 1 = some (iv b) := rfl
        have hs2 : sget (a :: b :: c :: d :: t) 2 = some (iv c) := rfl
        have hs3 : sget (a :: b :: c :: d :: t) 3 = some (iv d) := rfl
        by_cases hc : cont b
        · by_cases hd : cont c
          · by_cases he : cont d
            · have hl : F.utf_Next_l2 (a :: b :: c :: d :: t) (4, 65536, iv a % 8) (iv a % 8, 1) = some (.inl (((iv a % 8 * 64 + iv b % 64) * 64 + iv c % 64) * 64 + iv d % 64)) := by
                rw [l2_go 2 rfl (by omega) (by omega) (by omega) hs1 hc (by omega) (by omega), l2_go 3 rfl (by omega) (by omega) (by omega) hs2 hd (by omega) (by omega), l2_go 4 rfl (by omega) (by omega) (by omega) hs3 he (by omega) (by omega)]
                exact l2_done (by omega)
              rw [d4, if_pos (show cont b ∧ cont c ∧ cont d from ⟨hc, hd, he⟩)]
              rw [k1_inl (by omega) (by simp; omega) hl]
              unfold fin4
              split <;> split <;> first | rfl | omega
            · have hl : F.utf_Next_l2 (a :: b :: c :: d :: t) (4, 65536, iv a % 8) (iv a % 8, 1) = some (.inr (0, 0)) := by
                rw [l2_go 2 rfl (by omega) (by omega) (by omega) hs1 hc (by omega) (by omega), l2_go 3 rfl (by omega) (by omega) (by omega) hs2 hd (by omega) (by omega)]
                exact l2_bad (by omega) hs3 hd'.1 hd'.2 he
              rw [d4, if_neg (show ¬ (cont b ∧ cont c ∧ cont d) from fun h => he h.2.2)]
              rw [k1_inr (by omega) (by simp; omega) hl]
              rfl
          · have hl : F.utf_Next_l2 (a :: b :: c :: d :: t) (4, 65536, iv a % 8) (iv a % 8, 1) = some (.inr (0, 0)) := by
              rw [l2_go 2 rfl (by omega) (by omega) (by omega) hs1 hc (by omega) (by omega)]
              exact l2_bad (by omega) hs2 hc'.1 hc'.2 hd
            rw [d4, if_neg (show ¬ (cont b ∧ cont c ∧ cont d) from fun h => hd h.2.1)]
            rw [k1_inr (by omega) (by simp; omega) hl]
            rfl
        · rw [d4, if_neg (show ¬ (cont b ∧ cont c ∧ cont d) from fun h => hc h.1)]
          rw [k1_inr (by omega) (by simp; omega) (l2_bad (by omega) hs1 hb.1 hb.2 hc)]
          rfl
    · rw [if_neg h4]
      have e4 : (decide (iv a ≥ 240) && decide (iv a ≤ 244)) = false := by simp; omega
      rw [e4]
      simp only [Bool.false_eq_true, if_false]
      rw [k1_short (.inl rfl)]
      rfl
end Go.Proofs.Ytkhhmjikohonfaa.T
