/- A text sign by sign. -/
import Derived.Test.YtkhhmjikohonfaaTV
namespace Go.Proofs.Ytkhhmjikohonfaa.T
open Go F
set_option linter.unusedVariables false
set_option linter.unusedSimpArgs false
set_option maxRecDepth 20000

def pt (r : Int) : Str := if isSign r then enc r else []
/-- A text with each sign as f makes it. -/
def mpN (f : Int → Int) : Nat → Str → Str
  | 0, _ => []
  | _ + 1, [] => []
  | n + 1, a :: t => match dec (a :: t) with
    | none => a :: mpN f n t
    | some q => pt (f q.1) ++ mpN f n (t.drop (q.2.toNat - 1))
theorem mpN_enough (f : Int → Int) : ∀ (n m : Nat) (s : Str), s.length ≤ n → s.length ≤ m → mpN f n s = mpN f m s
  | 0, 0, _, _, _ => rfl
  | 0, m + 1, s, h, _ => by obtain rfl : s = [] := List.eq_nil_of_length_eq_zero (by omega); rfl
  | n + 1, 0, s, _, h => by obtain rfl : s = [] := List.eq_nil_of_length_eq_zero (by omega); rfl
  | n + 1, m + 1, [], _, _ => rfl
  | n + 1, m + 1, a :: t, h, h' => by
    simp only [List.length_cons] at h h'
    show (match dec (a :: t) with | none => a :: mpN f n t | some q => pt (f q.1) ++ mpN f n (t.drop (q.2.toNat - 1))) = (match dec (a :: t) with | none => a :: mpN f m t | some q => pt (f q.1) ++ mpN f m (t.drop (q.2.toNat - 1)))
    rw [mpN_enough f n m t (by omega) (by omega)]
    cases dec (a :: t) with
    | none => rfl
    | some q =>
      show pt (f q.1) ++ mpN f n (t.drop (q.2.toNat - 1)) = pt (f q.1) ++ mpN f m (t.drop (q.2.toNat - 1))
      have := List.length_drop (i := q.2.toNat - 1) (l := t)
      rw [mpN_enough f n m _ (by omega) (by omega)]
def mp (f : Int → Int) (s : Str) : Str := mpN f s.length s
theorem mp_nil (f : Int → Int) : mp f [] = [] := rfl
theorem mp_cons (f : Int → Int) (a : UInt8) (t : Str) : mp f (a :: t) = match dec (a :: t) with
    | none => a :: mp f t
    | some q => pt (f q.1) ++ mp f (t.drop (q.2.toNat - 1)) := by
  show (match dec (a :: t) with | none => a :: mpN f t.length t | some q => pt (f q.1) ++ mpN f t.length (t.drop (q.2.toNat - 1))) = _
  cases dec (a :: t) with
  | none => rfl
  | some q =>
    show pt (f q.1) ++ mpN f t.length (t.drop (q.2.toNat - 1)) = pt (f q.1) ++ mpN f (t.drop (q.2.toNat - 1)).length (t.drop (q.2.toNat - 1))
    have := List.length_drop (i := q.2.toNat - 1) (l := t)
    rw [mpN_enough f t.length _ _ (by omega) (Nat.le_refl _)]
theorem mp_raw {f : Int → Int} {a : UInt8} {t : Str} (h : dec (a :: t) = none) : mp f (a :: t) = a :: mp f t := by rw [mp_cons, h]
theorem mp_sign {f : Int → Int} {r : Int} (h : isSign r) (t : Str) : mp f (enc r ++ t) = pt (f r) ++ mp f t := by
  have hd := dec_enc h t
  have hp := enc_pos r
  cases he : enc r with
  | nil => rw [he] at hp; simp at hp
  | cons a u =>
    rw [he] at hd
    have e : (((a :: u).length : Int)).toNat - 1 = u.length := by simp
    rw [List.cons_append] at hd ⊢
    rw [mp_cons, hd]
    simp only [e, List.drop_left]
theorem toks {P : Str → Prop} (h0 : P []) (h1 : ∀ a t, dec (a :: t) = none → P t → P (a :: t)) (h2 : ∀ r t, isSign r → P t → P (enc r ++ t)) (s : Str) : P s := by
  have key : ∀ m (s : Str), s.length ≤ m → P s := by
    intro m
    induction m with
    | zero => intro s hs; obtain rfl : s = [] := List.eq_nil_of_length_eq_zero (by omega); exact h0
    | succ m ih =>
      intro s hs
      cases s with
      | nil => exact h0
      | cons a t =>
        cases hd : dec (a :: t) with
        | none => exact h1 a t hd (ih t (by simp at hs; omega))
        | some q =>
          obtain ⟨r, n⟩ := q
          obtain ⟨g1, _, u, g3⟩ := dec_some hd
          have hp := enc_pos r
          rw [g3]
          refine h2 r u g1 (ih u ?_)
          have := congrArg List.length g3
          simp only [List.length_append, List.length_cons] at this hs
          omega
  exact key _ s (Nat.le_refl _)
theorem pt_len (r : Int) : (pt r).length ≤ 4 := by
  unfold pt
  have := enc_le r
  split
  · exact this
  · simp
theorem mp_len (f : Int → Int) (s : Str) : (mp f s).length ≤ 4 * s.length := by
  induction s using toks with
  | h0 => simp [mp_nil]
  | h1 a t h ih => rw [mp_raw h]; simp; omega
  | h2 r t h ih =>
    rw [mp_sign h]
    have := enc_pos r
    have := pt_len (f r)
    simp only [List.length_append]
    omega

/-- The function as it stands. -/
theorem map_go {x : Int → Option Int} {f : Int → Int} (hf : ∀ r, isSign r → x r = some (f r)) (s : Str) : ∀ b : Str, b.length + 4 * s.length ≤ 1000000 → F.utf_Map_l1 x (s, b) = some (b ++ mp f s) := by
  induction s using toks with
  | h0 =>
    intro b _
    unfold F.utf_Map_l1
    rw [iter_eq, show F.utf_Map_s1 x ([], b) = some (.inr b) from rfl, mp_nil]
    simp
  | h1 a t h ih =>
    intro b hb
    simp only [List.length_cons] at hb
    have e : F.utf_Map_s1 x (a :: t, b) = some (.inl (t, b ++ [a])) := by
      unfold F.utf_Map_s1
      have hne : ((a :: t) == ([] : Str)) = false := rfl
      simp only [hne, Bool.not_false, if_true, next_none h, Option.bind_some, beq_self_eq_true]
      have h3 : sget (a :: t) 0 = some (iv a) := rfl
      rw [h3, Option.bind_some, u8_iv, lapp_ok (by simp [maxL]; omega), Option.bind_some]
      have h4 := lsub_nat (a :: t) 1 (a :: t).length (by simp) (Nat.le_refl _)
      rw [List.take_length] at h4
      rw [show (1 : Int) = ((1 : Nat) : Int) from rfl, h4]
      rfl
    have h5 := ih (b ++ [a]) (by simp; omega)
    unfold F.utf_Map_l1 at h5 ⊢
    rw [iter_eq, e, mp_raw h]
    rw [Option.bind_some]
    simp only [h5, List.append_assoc, List.singleton_append]
  | h2 r t h ih =>
    intro b hb
    have hp := enc_pos r
    have hq := pt_len (f r)
    have hr := enc_le (f r)
    simp only [List.length_append] at hb
    have e : F.utf_Map_s1 x (enc r ++ t, b) = some (.inl (t, b ++ pt (f r))) := by
      unfold F.utf_Map_s1
      have hne : ((enc r ++ t) == ([] : Str)) = false := by simpa using (fun h _ => (List.ne_nil_of_length_pos hp h : False) : enc r = [] → ¬ t = [])
      have hz : (((enc r).length : Int) == 0) = false := by simp; intro h; rw [h] at hp; simp at hp
      simp only [hne, Bool.not_false, if_true, next_some (dec_enc h t), Option.bind_some, hz, Bool.false_eq_true, if_false, hf r h]
      have hput : F.utf_Put b (f r) = some (b ++ pt (f r)) := by
        rw [put_eq]
        unfold pt
        split
        · exact lapp_ok (by simp only [maxL]; omega)
        · simp
      rw [hput, Option.bind_some, lsub_drop]
      rfl
    have h5 := ih (b ++ pt (f r)) (by simp; omega)
    unfold F.utf_Map_l1 at h5 ⊢
    rw [iter_eq, e, mp_sign h]
    rw [Option.bind_some]
    simp only [h5, List.append_assoc]
theorem map_eq {x : Int → Option Int} {f : Int → Int} (hf : ∀ r, isSign r → x r = some (f r)) {s : Str} (hs : s.length ≤ 100000) : F.utf_Map s x = some (mp f s) := by
  unfold F.utf_Map
  rw [map_go hf s [] (by simp; omega)]
  rfl

/-- What follows, if it goes on within a sign, was there before. -/
theorem cont_of {f : Int → Int} {c : UInt8} {w t : Str} (hc : cont c) (h : mp f t = c :: w) (hf : ∀ r, isSign r → isSign (f r)) : ∃ t', t = c :: t' ∧ mp f t' = w := by
  cases t with
  | nil => rw [mp_nil] at h; cases h
  | cons a t =>
    cases hd : dec (a :: t) with
    | none => rw [mp_raw hd] at h; injection h with h1 h2; exact ⟨t, by rw [h1], h2⟩
    | some q =>
      obtain ⟨r, n⟩ := q
      obtain ⟨g1, _, u, g3⟩ := dec_some hd
      rw [g3, mp_sign g1] at h
      unfold pt at h
      rw [if_pos (hf r g1)] at h
      have h4 := dec_enc (hf r g1) (mp f u)
      rw [h, dec_cont hc] at h4
      cases h4
theorem conts_of {f : Int → Int} (hf : ∀ r, isSign r → isSign (f r)) : ∀ (cs : Str) {w t : Str}, (∀ c ∈ cs, cont c) → mp f t = cs ++ w → ∃ t', t = cs ++ t'
  | [], _, t, _, _ => ⟨t, rfl⟩
  | c :: cs, w, t, hc, h => by
    obtain ⟨t1, h1, h2⟩ := cont_of (hc c (by simp)) h hf
    obtain ⟨t2, h3⟩ := conts_of hf cs (fun x hx => hc x (by simp [hx])) h2
    exact ⟨t2, by rw [h1, h3]; rfl⟩
theorem enc_cons {r : Int} (h : isSign r) : ∃ a cs, enc r = a :: cs ∧ ∀ c ∈ cs, cont c := by
  obtain ⟨h0, h1, _⟩ := h
  unfold enc
  split
  · exact ⟨_, _, rfl, by simp⟩
  · split
    · exact ⟨_, _, rfl, by simp only [List.mem_cons, List.not_mem_nil, or_false]; rintro c rfl; exact cont_u8 (by omega) (by omega)⟩
    · split
      · exact ⟨_, _, rfl, by simp only [List.mem_cons, List.not_mem_nil, or_false]; rintro c (rfl | rfl) <;> exact cont_u8 (by omega) (by omega)⟩
      · exact ⟨_, _, rfl, by simp only [List.mem_cons, List.not_mem_nil, or_false]; rintro c (rfl | rfl | rfl) <;> exact cont_u8 (by omega) (by omega)⟩
theorem raw_stays {f : Int → Int} (hf : ∀ r, isSign r → isSign (f r)) {a : UInt8} {t : Str} (h : dec (a :: t) = none) : dec (a :: mp f t) = none := by
  cases hd : dec (a :: mp f t) with
  | none => rfl
  | some q =>
    obtain ⟨r, n⟩ := q
    obtain ⟨g1, _, u, g3⟩ := dec_some hd
    obtain ⟨b, cs, h1, h2⟩ := enc_cons g1
    rw [h1] at g3
    injection g3 with g4 g5
    obtain ⟨t', h3⟩ := conts_of hf cs h2 g5
    have h4 : a :: t = enc r ++ t' := by rw [g4, h3, h1]; rfl
    rw [h4, dec_enc g1] at h
    cases h
theorem mp_mp {f g : Int → Int} (hf : ∀ r, isSign r → isSign (f r)) (s : Str) : mp g (mp f s) = mp (fun r => g (f r)) s := by
  induction s using toks with
  | h0 => simp [mp_nil]
  | h1 a t h ih => rw [mp_raw h, mp_raw h, mp_raw (raw_stays hf h), ih]
  | h2 r t h ih => rw [mp_sign h, mp_sign h, show pt (f r) = enc (f r) from if_pos (hf r h), mp_sign (hf r h), ih]
theorem mp_congr {f g : Int → Int} (h : ∀ r, isSign r → f r = g r) (s : Str) : mp f s = mp g s := by
  induction s using toks with
  | h0 => simp [mp_nil]
  | h1 a t h1 ih => rw [mp_raw h1, mp_raw h1, ih]
  | h2 r t h1 ih => rw [mp_sign h1, mp_sign h1, h r h1, ih]
theorem mp_id (s : Str) : mp (fun r => r) s = s := by
  induction s using toks with
  | h0 => simp [mp_nil]
  | h1 a t h1 ih => rw [mp_raw h1, ih]
  | h2 r t h1 ih => rw [mp_sign h1, ih, show pt r = enc r from if_pos h1]
theorem mp_gone (s : Str) : mp (fun _ => -1) s = [] ↔ Signs s := by
  induction s using toks with
  | h0 => simp [mp_nil, Signs.nil]
  | h1 a t h1 ih => rw [mp_raw h1]; simp [not_signs h1]
  | h2 r t h1 ih => rw [mp_sign h1, signs_cons h1, show pt (-1) = [] from rfl, List.nil_append, ih]

/-- Small letters, letters without marks: of the first 384, and beyond. -/
def lowZ (r : Int) : Int := (F.utf_Low r).getD 0
def plainZ (r : Int) : Int := (F.utf_Plain r).getD 0
def tabOk (n : Nat) : Bool := match F.utf_Low n, F.utf_Plain n with
  | some l, some p => decide (0 ≤ l ∧ l < 384 ∧ 0 ≤ p ∧ p < 384) && F.utf_Low l == some l && F.utf_Plain p == some p && F.utf_Plain l == F.utf_Low p
  | _, _ => false
theorem tab_all : ∀ n : Fin 384, tabOk n = true := by decide +kernel
theorem low_big {r : Int} (h : 384 ≤ r) (h1 : r ≤ 1114111) : F.utf_Low r = some r := by
  unfold F.utf_Low
  have a1 : (decide (r ≥ 65) && decide (r ≤ 90)) = false := by simp; omega
  have a2 : (decide (r ≥ 192) && decide (r ≤ 222)) = false := by simp; omega
  have a3 : (decide (r ≥ 256) && decide (r ≤ 311)) = false := by simp; omega
  have a4 : (decide (r ≥ 330) && decide (r ≤ 375)) = false := by simp; omega
  have a5 : (decide (r ≥ 313) && decide (r ≤ 328)) = false := by simp; omega
  have a6 : (decide (r ≥ 377) && decide (r ≤ 382)) = false := by simp; omega
  have a7 : (r == 376) = false := by simp; omega
  simp only [a1, a2, a3, a4, a5, a6, a7, Option.bind_some, Bool.false_and, Bool.false_eq_true, if_false]
theorem plain_big {r : Int} (h : 384 ≤ r) (h1 : r ≤ 1114111) : F.utf_Plain r = some r := by
  unfold F.utf_Plain
  rw [wi64 (n := r) (by omega) (by omega), wi64 (n := r - 192) (by omega) (by omega)]
  have a1 : (decide (r < 192) || decide (r - 192 ≥ 192)) = true := by simp; omega
  simp only [a1, Option.bind_some, if_true]
theorem facts {r : Int} (h : isSign r) : F.utf_Low r = some (lowZ r) ∧ F.utf_Plain r = some (plainZ r) ∧ isSign (lowZ r) ∧ isSign (plainZ r) ∧ lowZ (lowZ r) = lowZ r ∧ plainZ (plainZ r) = plainZ r ∧ plainZ (lowZ r) = lowZ (plainZ r) := by
  obtain ⟨h0, h1, h2⟩ := h
  by_cases hb : 384 ≤ r
  · have e1 := low_big hb h1
    have e2 := plain_big hb h1
    have e3 : lowZ r = r := by unfold lowZ; rw [e1]; rfl
    have e4 : plainZ r = r := by unfold plainZ; rw [e2]; rfl
    rw [e3, e4]
    refine ⟨e1, e2, ⟨h0, h1, h2⟩, ⟨h0, h1, h2⟩, e3, e4, ?_⟩
    rw [e3]
  · obtain ⟨n, rfl⟩ := Int.eq_ofNat_of_zero_le h0
    have ht := tab_all ⟨n, by omega⟩
    unfold tabOk at ht
    simp only at ht
    split at ht
    · rename_i l p hl hp
      simp only [Bool.and_eq_true, decide_eq_true_eq, beq_iff_eq] at ht
      obtain ⟨⟨⟨⟨t1, t2, t3, t4⟩, t5⟩, t6⟩, t7⟩ := ht
      have e1 : lowZ n = l := by unfold lowZ; rw [hl]; rfl
      have e2 : plainZ n = p := by unfold plainZ; rw [hp]; rfl
      have e3 : lowZ l = l := by unfold lowZ; rw [t5]; rfl
      have e4 : plainZ p = p := by unfold plainZ; rw [t6]; rfl
      rw [e1, e2, e3, e4]
      refine ⟨hl, hp, ⟨by omega, by omega, by omega⟩, ⟨by omega, by omega, by omega⟩, rfl, rfl, ?_⟩
      unfold lowZ plainZ
      rw [t7]
    · cases ht
end Go.Proofs.Ytkhhmjikohonfaa.T
