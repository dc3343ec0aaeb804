/- Words of the pure programs: what they are made of. -/
import GoSem.Core.Value
import GoSem.Op.IntArith
import GoSem.Op.IntBits
import Derived.IntWalk
namespace Go.Proofs.Ytihbdelgoapeoaa.F
open Go
set_option linter.unusedVariables false
set_option linter.unusedSimpArgs false

abbrev Str := List UInt8
/-- No list and no text is longer, where one is made. -/
abbrev maxL : Nat := 2147483648

/-- xs[i] -/
def lidx {α : Type} (l : List α) (i : Int) : Option α := if 0 ≤ i then l[i.toNat]? else none
/-- s[i], as a number -/
def sget (l : Str) (i : Int) : Option Int := if 0 ≤ i then (l[i.toNat]?).map fun b => (b.toNat : Int) else none
/-- xs[a:b] -/
def lsub {α : Type} (l : List α) (a b : Int) : Option (List α) := if 0 ≤ a ∧ a ≤ b ∧ b ≤ l.length then some ((l.take b.toNat).drop a.toNat) else none
/-- append(xs, ys...); texts side by side -/
def lapp {α : Type} (l m : List α) : Option (List α) := if l.length + m.length ≤ maxL then some (l ++ m) else none
/-- lists of lists, one behind the other -/
def lcat {α : Type} (l : List (List α)) : Option (List α) := if l.length ≤ maxL ∧ l.flatten.length ≤ maxL then some l.flatten else none
/-- so many noughts -/
def lmake {α : Type} (z : α) (n : Int) : Option (List α) := if 0 ≤ n ∧ n ≤ 2147483648 then some (List.replicate n.toNat z) else none
/-- a number as a byte -/
def u8 (n : Int) : UInt8 := UInt8.ofNat n.toNat
theorem u8_toNat {n : Int} (h0 : 0 ≤ n) (h1 : n < 256) : ((u8 n).toNat : Int) = n := by
  have e : (u8 n).toNat = n.toNat % 256 := by simp [u8]
  rw [e]; omega
theorem u8_of (b : UInt8) : u8 (b.toNat : Int) = b := by
  simp [u8]

/-- A whole number of 64 bits, and of others. -/
abbrev w64 (n : Int) : Int := IntKind.i64.wrap n

abbrev band (k : IntKind) (a b : Int) : Int := k.wrap (BitVec.ofInt k.bits a &&& BitVec.ofInt k.bits b).toNat
abbrev bor (k : IntKind) (a b : Int) : Int := k.wrap (BitVec.ofInt k.bits a ||| BitVec.ofInt k.bits b).toNat
abbrev bxor (k : IntKind) (a b : Int) : Int := k.wrap (BitVec.ofInt k.bits a ^^^ BitVec.ofInt k.bits b).toNat
abbrev bandNot (k : IntKind) (a b : Int) : Int := k.wrap (BitVec.ofInt k.bits a &&& ~~~ BitVec.ofInt k.bits b).toNat
abbrev bshl (k : IntKind) (a b : Int) : Int := k.wrap (a * 2 ^ (min b.toNat k.bits))
abbrev bshr (k : IntKind) (a b : Int) : Int := a.fdiv (2 ^ (min b.toNat k.bits))
/-- no nought; none below it -/
def nz (b : Int) : Option Unit := if b = 0 then none else some ()
def nn (b : Int) : Option Unit := if 0 ≤ b then some () else none
theorem nz_s {b : Int} {u : Unit} (h : nz b = some u) : b ≠ 0 := by unfold nz at h; split at h <;> simp_all
theorem nn_s {b : Int} {u : Unit} (h : nn b = some u) : 0 ≤ b := by unfold nn at h; split at h <;> simp_all

/-- What a loop comes to: rounds as long as there is a next state. -/
def iterN {S X : Type} (f : S → Option (S ⊕ X)) : Nat → S → Option X
  | 0, _ => none
  | n + 1, s => match f s with
    | none => none
    | some (.inl s') => iterN f n s'
    | some (.inr x) => some x
theorem iterN_succ {S X : Type} {f : S → Option (S ⊕ X)} : ∀ {n : Nat} {s : S} {x : X}, iterN f n s = some x → iterN f (n + 1) s = some x
  | 0, s, x, h => by simp [iterN] at h
  | n + 1, s, x, h => by
    unfold iterN at h ⊢
    split <;> simp_all
    exact iterN_succ h
theorem iterN_mono {S X : Type} {f : S → Option (S ⊕ X)} {n m : Nat} {s : S} {x : X} (hnm : n ≤ m) (h : iterN f n s = some x) : iterN f m s = some x := by
  induction hnm with
  | refl => exact h
  | step _ ih => exact iterN_succ ih
open Classical in
noncomputable def iter {S X : Type} (f : S → Option (S ⊕ X)) (s : S) : Option X :=
  if h : ∃ n x, iterN f n s = some x then some (Classical.choose (Classical.choose_spec h)) else none
theorem iter_some {S X : Type} {f : S → Option (S ⊕ X)} {s : S} {x : X} : iter f s = some x ↔ ∃ n, iterN f n s = some x := by
  unfold iter
  constructor
  · intro h
    split at h
    · rename_i hx
      have := Classical.choose_spec (Classical.choose_spec hx)
      rw [Option.some.inj h] at this
      exact ⟨_, this⟩
    · cases h
  · rintro ⟨n, hn⟩
    have hx : ∃ n x, iterN f n s = some x := ⟨n, x, hn⟩
    rw [dif_pos hx]
    have h2 := Classical.choose_spec (Classical.choose_spec hx)
    have h3 := iterN_mono (Nat.le_max_left n (Classical.choose hx)) hn
    have h4 := iterN_mono (Nat.le_max_right n (Classical.choose hx)) h2
    rw [h3] at h4
    exact (Option.some.inj h4) ▸ rfl
theorem iter_eq {S X : Type} (f : S → Option (S ⊕ X)) (s : S) : iter f s = (f s).bind fun r => match r with
    | .inl s' => iter f s'
    | .inr x => some x := by
  apply Option.ext
  intro x
  rw [iter_some]
  constructor
  · rintro ⟨n, hn⟩
    cases n with
    | zero => simp [iterN] at hn
    | succ n =>
      unfold iterN at hn
      split at hn
      · cases hn
      · rename_i s' hs
        simp [hs]
        exact iter_some.2 ⟨n, hn⟩
      · rename_i y hs
        simp [hs]
        exact Option.some.inj hn
  · intro h
    cases hs : f s with
    | none => simp [hs] at h
    | some r =>
      rw [hs] at h
      cases r with
      | inl s' =>
        obtain ⟨n, hn⟩ := iter_some.1 (show iter f s' = some x from h)
        exact ⟨n + 1, by simp [iterN, hs, hn]⟩
      | inr y =>
        have : y = x := by simpa using h
        exact ⟨1, by simp [iterN, hs, this]⟩
end Go.Proofs.Ytihbdelgoapeoaa.F
