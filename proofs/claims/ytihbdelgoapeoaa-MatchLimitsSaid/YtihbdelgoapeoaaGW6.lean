/- Walks. Printed. -/
import Derived.Test.YtihbdelgoapeoaaGW5
namespace Go.Proofs.Ytihbdelgoapeoaa.K
open Go Go.RowKit F
set_option maxRecDepth 100000
set_option maxHeartbeats 4000000
set_option linter.unusedVariables false
set_option linter.unusedSimpArgs false
theorem slices_Concat_match_Match_match_Match_ok {x0_ : List (List match_Match)} {y : (List match_Match)} (hF : F.slices_Concat_match_Match_match_Match x0_ = some y) {v0_ : AV} {σ : Mem} (h0_ : RS (eL e_match_Match) v0_ x0_) : CallE Try.prog 62 [v0_] σ (fun v σ' => RS e_match_Match v y ∧ Ext σ σ') := by
  unfold F.slices_Concat_match_Match_match_Match lcat at hF
  split at hF
  case isFalse => cases hF
  rename_i hlen
  cases hF
  have hlen' : x0_.flatten.length ≤ 2147483648 := hlen.2
  have hlen2 : x0_.length ≤ 2147483648 := hlen.1
  refine CallE.ghost (R := fun v σ' => GB e_match_Match σ σ' x0_.flatten.length v x0_.flatten) ?_ (fun v σ' h => by
    obtain ⟨v', σ'', g1, g2, g3⟩ := h.ghost rfl hlen'
    exact ⟨v', σ'', g1, g2, g3⟩)
  have hO0 := Own.start σ
  refine CallE_of Try.func62 rfl Try.ntmps62 (by simp) ?_
  repeat' first
    | with_reducible refine TY_len (E := eL e_match_Match) (by with_unfolding_all rfl) (by with_unfolding_all rfl) (by with_unfolding_all rfl) (by with_unfolding_all rfl) h0_ (by with_unfolding_all rfl) ?_
    | refine TE_seq ?_
    | with_reducible refine TE_block ?_
    | with_reducible refine TE_seqY ?_
    | with_reducible refine TX_nil ?_
    | with_reducible refine thenQ_normal ?_
    | with_reducible refine thenQ_ret ?_
    | with_reducible refine blockQ_normal ?_
    | with_reducible refine blockQ_out ?_
    | with_reducible refine thenQ_exit ?_
    | with_reducible refine TX_move (by with_unfolding_all rfl) ?_
    | with_reducible refine TX_assign (by with_unfolding_all rfl) ?_
    | with_reducible refine TX_cmp (by with_unfolding_all rfl) (by with_unfolding_all rfl) (by with_unfolding_all rfl) ?_
    | with_reducible refine TX_ari (by with_unfolding_all rfl) (by with_unfolding_all rfl) (by with_unfolding_all rfl) ?_
    | with_reducible refine TE_cond_t (by with_unfolding_all rfl) (by first | assumption | with_unfolding_all rfl) ?_
    | with_reducible refine TE_cond_f (by with_unfolding_all rfl) (by first | assumption | with_unfolding_all rfl) ?_
    | with_reducible refine TE_ret ?_
    | with_reducible refine TE_skip ?_
    | with_reducible refine TE_exit ?_
  refine TE_loopS (fun k : Nat => ⟨fr 36 [(0, v0_), (3, .int .i64 ((x0_.take k).flatten.length : Nat)), (10, .int .i64 (x0_.length : Nat)), (9, v0_), (11, .int .i64 (k : Nat))], [], σ⟩) (fun k => k ≤ x0_.length) (fun k => x0_.length - k) 0 (Nat.zero_le _) (Le_fr (by simp only [List.take_zero, List.flatten_nil]; exact ⟨rfl, rfl, rfl, rfl, rfl, trivial⟩)) ?_
  intro k hk
  try dsimp only at hk ⊢
  by_cases hlt : k < x0_.length
  · have hd : decide ((k : Int) < (x0_.length : Nat)) = true := decide_eq_true (by omega)
    have hg : lidx x0_ (k : Int) = some x0_[k] := by simp [lidx, hlt]
    have hsum : (x0_.take (k + 1)).flatten.length = (x0_.take k).flatten.length + x0_[k].length := by
      rw [List.take_succ_eq_append_getElem hlt, List.flatten_append]; simp
    have hle : (x0_.take (k + 1)).flatten.length ≤ x0_.flatten.length := flat_take_le _ _
    have hw : IntKind.i64.wrap (((x0_.take k).flatten.length : Nat) + (x0_[k].length : Nat)) = ((x0_.take (k + 1)).flatten.length : Nat) := (IntWalk.i64_in _ ⟨by omega, by omega⟩).trans (by omega)
    have hn : decide (IntKind.i64.wrap (((x0_.take k).flatten.length : Nat) + (x0_[k].length : Nat)) < 0) = false := decide_eq_false (by rw [hw]; omega)
    have hw2 : IntKind.i64.wrap ((k : Int) + 1) = ((k + 1 : Nat) : Int) := (IntWalk.i64_in _ ⟨by omega, by omega⟩).trans (by omega)
    have hM := MB_none σ
    repeat' first
      | refine TE_seq ?_
      | with_reducible refine TE_block ?_
      | with_reducible refine TE_seqY ?_
      | with_reducible refine TX_nil ?_
      | with_reducible refine thenQ_normal ?_
      | with_reducible refine thenQ_ret ?_
      | with_reducible refine blockQ_normal ?_
      | with_reducible refine blockQ_out ?_
      | with_reducible refine thenQ_exit ?_
      | with_reducible refine TX_move (by with_unfolding_all rfl) ?_
      | with_reducible refine TX_assign (by with_unfolding_all rfl) ?_
      | with_reducible refine TX_cmp (by with_unfolding_all rfl) (by with_unfolding_all rfl) (by with_unfolding_all rfl) ?_
      | with_reducible refine TX_ari (by with_unfolding_all rfl) (by with_unfolding_all rfl) (by with_unfolding_all rfl) ?_
      | with_reducible refine TE_cond_t (by with_unfolding_all rfl) (by first | assumption | with_unfolding_all rfl) ?_
      | with_reducible refine TE_cond_f (by with_unfolding_all rfl) (by first | assumption | with_unfolding_all rfl) ?_
      | with_reducible refine TE_ret ?_
      | with_reducible refine TE_skip ?_
      | with_reducible refine TE_exit ?_
    with_reducible refine TY_idx (E := eL e_match_Match) (by with_unfolding_all rfl) (by with_unfolding_all rfl) (by with_unfolding_all rfl) h0_ (by with_unfolding_all rfl) hg ?_
    intro u hu'
    have hu : RS e_match_Match u x0_[k] := hu'
    rw [RS.cells hu]
    with_reducible refine TX_load_c (by with_unfolding_all rfl) (by with_unfolding_all rfl) ?_
    repeat' first
      | with_reducible refine TY_len (E := e_match_Match) (by with_unfolding_all rfl) (by with_unfolding_all rfl) (by with_unfolding_all rfl) (by with_unfolding_all rfl) hu (by with_unfolding_all rfl) ?_
      | refine TE_seq ?_
      | with_reducible refine TE_block ?_
      | with_reducible refine TE_seqY ?_
      | with_reducible refine TX_nil ?_
      | with_reducible refine thenQ_normal ?_
      | with_reducible refine thenQ_ret ?_
      | with_reducible refine blockQ_normal ?_
      | with_reducible refine blockQ_out ?_
      | with_reducible refine thenQ_exit ?_
      | with_reducible refine TX_move (by with_unfolding_all rfl) ?_
      | with_reducible refine TX_assign (by with_unfolding_all rfl) ?_
      | with_reducible refine TX_cmp (by with_unfolding_all rfl) (by with_unfolding_all rfl) (by with_unfolding_all rfl) ?_
      | with_reducible refine TX_ari (by with_unfolding_all rfl) (by with_unfolding_all rfl) (by with_unfolding_all rfl) ?_
      | with_reducible refine TE_cond_t (by with_unfolding_all rfl) (by first | assumption | with_unfolding_all rfl) ?_
      | with_reducible refine TE_cond_f (by with_unfolding_all rfl) (by first | assumption | with_unfolding_all rfl) ?_
      | with_reducible refine TE_ret ?_
      | with_reducible refine TE_skip ?_
      | with_reducible refine TE_exit ?_
    exact loopQ_again (k + 1) (by omega) (by omega) (Le_fr ⟨rfl, by rw [← hw]; rfl, rfl, rfl, by rw [← hw2]; rfl, trivial⟩)
  · have hd : decide ((k : Int) < (x0_.length : Nat)) = false := decide_eq_false (by omega)
    have hke : k = x0_.length := by omega
    subst hke
    rw [List.take_length]
    repeat' first
      | refine loopQ_exit ?_
      | refine TE_seq ?_
      | with_reducible refine TE_block ?_
      | with_reducible refine TE_seqY ?_
      | with_reducible refine TX_nil ?_
      | with_reducible refine thenQ_normal ?_
      | with_reducible refine thenQ_ret ?_
      | with_reducible refine blockQ_normal ?_
      | with_reducible refine blockQ_out ?_
      | with_reducible refine thenQ_exit ?_
      | with_reducible refine TX_move (by with_unfolding_all rfl) ?_
      | with_reducible refine TX_assign (by with_unfolding_all rfl) ?_
      | with_reducible refine TX_cmp (by with_unfolding_all rfl) (by with_unfolding_all rfl) (by with_unfolding_all rfl) ?_
      | with_reducible refine TX_ari (by with_unfolding_all rfl) (by with_unfolding_all rfl) (by with_unfolding_all rfl) ?_
      | with_reducible refine TE_cond_t (by with_unfolding_all rfl) (by first | assumption | with_unfolding_all rfl) ?_
      | with_reducible refine TE_cond_f (by with_unfolding_all rfl) (by first | assumption | with_unfolding_all rfl) ?_
      | with_reducible refine TE_ret ?_
      | with_reducible refine TE_skip ?_
      | with_reducible refine TE_exit ?_
    obtain ⟨gv, gs, hgc, hgb⟩ := slices_Grow_match_Match_match_Match_ok (N := x0_.flatten.length) hlen' σ
    with_reducible refine TX_call (by with_unfolding_all rfl) en95 hgc (MB_none _) ?_
    repeat' first
      | with_reducible refine TY_len (E := eL e_match_Match) (by with_unfolding_all rfl) (by with_unfolding_all rfl) (by with_unfolding_all rfl) (by with_unfolding_all rfl) h0_ (by with_unfolding_all rfl) ?_
      | refine TE_seq ?_
      | with_reducible refine TE_block ?_
      | with_reducible refine TE_seqY ?_
      | with_reducible refine TX_nil ?_
      | with_reducible refine thenQ_normal ?_
      | with_reducible refine thenQ_ret ?_
      | with_reducible refine blockQ_normal ?_
      | with_reducible refine blockQ_out ?_
      | with_reducible refine thenQ_exit ?_
      | with_reducible refine TX_move (by with_unfolding_all rfl) ?_
      | with_reducible refine TX_assign (by with_unfolding_all rfl) ?_
      | with_reducible refine TX_cmp (by with_unfolding_all rfl) (by with_unfolding_all rfl) (by with_unfolding_all rfl) ?_
      | with_reducible refine TX_ari (by with_unfolding_all rfl) (by with_unfolding_all rfl) (by with_unfolding_all rfl) ?_
      | with_reducible refine TE_cond_t (by with_unfolding_all rfl) (by first | assumption | with_unfolding_all rfl) ?_
      | with_reducible refine TE_cond_f (by with_unfolding_all rfl) (by first | assumption | with_unfolding_all rfl) ?_
      | with_reducible refine TE_ret ?_
      | with_reducible refine TE_skip ?_
      | with_reducible refine TE_exit ?_
    refine TE_iterG (fun (k : Nat) z => k ≤ x0_.length ∧ ∃ u s, GB e_match_Match σ s x0_.flatten.length u (x0_.take k).flatten ∧ Le z ⟨fr 36 [(0, v0_), (6, u), (26, .int .i64 (x0_.length : Nat)), (25, v0_), (27, .int .i64 (k : Nat))], [], s⟩) (fun k => x0_.length - k) 0 ⟨Nat.zero_le _, gv, gs, by simpa using hgb, Le_fr ⟨rfl, rfl, rfl, rfl, rfl, trivial⟩⟩ ?_
    rintro k z ⟨hk, u, s, hgb, hz⟩
    refine TE_pre hz ?_
    by_cases hlt : k < x0_.length
    · have hd : decide ((k : Int) < (x0_.length : Nat)) = true := decide_eq_true (by omega)
      have hg : lidx x0_ (k : Int) = some x0_[k] := by simp [lidx, hlt]
      have hsum : (x0_.take (k + 1)).flatten = (x0_.take k).flatten ++ x0_[k] := by
        rw [List.take_succ_eq_append_getElem hlt, List.flatten_append]; simp
      have hle : (x0_.take (k + 1)).flatten.length ≤ x0_.flatten.length := flat_take_le _ _
      have hw2 : IntKind.i64.wrap ((k : Int) + 1) = ((k + 1 : Nat) : Int) := (IntWalk.i64_in _ ⟨by omega, by omega⟩).trans (by omega)
      repeat' first
        | refine TE_seq ?_
        | with_reducible refine TE_block ?_
        | with_reducible refine TE_seqY ?_
        | with_reducible refine TX_nil ?_
        | with_reducible refine thenQ_normal ?_
        | with_reducible refine thenQ_ret ?_
        | with_reducible refine blockQ_normal ?_
        | with_reducible refine blockQ_out ?_
        | with_reducible refine thenQ_exit ?_
        | with_reducible refine TX_move (by with_unfolding_all rfl) ?_
        | with_reducible refine TX_assign (by with_unfolding_all rfl) ?_
        | with_reducible refine TX_cmp (by with_unfolding_all rfl) (by with_unfolding_all rfl) (by with_unfolding_all rfl) ?_
        | with_reducible refine TX_ari (by with_unfolding_all rfl) (by with_unfolding_all rfl) (by with_unfolding_all rfl) ?_
        | with_reducible refine TE_cond_t (by with_unfolding_all rfl) (by first | assumption | with_unfolding_all rfl) ?_
        | with_reducible refine TE_cond_f (by with_unfolding_all rfl) (by first | assumption | with_unfolding_all rfl) ?_
        | with_reducible refine TE_ret ?_
        | with_reducible refine TE_skip ?_
        | with_reducible refine TE_exit ?_
      with_reducible refine TY_idx (E := eL e_match_Match) (by with_unfolding_all rfl) (by with_unfolding_all rfl) (by with_unfolding_all rfl) h0_ (by with_unfolding_all rfl) hg ?_
      intro v hv'
      have hv : RS e_match_Match v x0_[k] := hv'
      rw [RS.cells hv]
      with_reducible refine TX_load_c (by with_unfolding_all rfl) (by with_unfolding_all rfl) ?_
      obtain ⟨u', s', hap, hgb'⟩ := hgb.app appT22_22 hv (by rw [hsum, List.length_append] at hle; omega)
      rw [← hsum] at hgb'
      repeat' first
        | with_reducible refine TX_appendX (by with_unfolding_all rfl) (by with_unfolding_all rfl) (by with_unfolding_all rfl) (by with_unfolding_all rfl) (by with_unfolding_all rfl) hap (MB_none _) ?_
        | refine TE_seq ?_
        | with_reducible refine TE_block ?_
        | with_reducible refine TE_seqY ?_
        | with_reducible refine TX_nil ?_
        | with_reducible refine thenQ_normal ?_
        | with_reducible refine thenQ_ret ?_
        | with_reducible refine blockQ_normal ?_
        | with_reducible refine blockQ_out ?_
        | with_reducible refine thenQ_exit ?_
        | with_reducible refine TX_move (by with_unfolding_all rfl) ?_
        | with_reducible refine TX_assign (by with_unfolding_all rfl) ?_
        | with_reducible refine TX_cmp (by with_unfolding_all rfl) (by with_unfolding_all rfl) (by with_unfolding_all rfl) ?_
        | with_reducible refine TX_ari (by with_unfolding_all rfl) (by with_unfolding_all rfl) (by with_unfolding_all rfl) ?_
        | with_reducible refine TE_cond_t (by with_unfolding_all rfl) (by first | assumption | with_unfolding_all rfl) ?_
        | with_reducible refine TE_cond_f (by with_unfolding_all rfl) (by first | assumption | with_unfolding_all rfl) ?_
        | with_reducible refine TE_ret ?_
        | with_reducible refine TE_skip ?_
        | with_reducible refine TE_exit ?_
      refine loopG_again (k + 1) ?_ ?_
      · exact ⟨by omega, u', s', hgb', Le_fr ⟨rfl, rfl, rfl, rfl, by rw [← hw2]; rfl, trivial⟩⟩
      · omega
    · have hd : decide ((k : Int) < (x0_.length : Nat)) = false := decide_eq_false (by omega)
      have hke : k = x0_.length := by omega
      subst hke
      rw [List.take_length] at hgb
      repeat' first
        | refine loopG_exit ?_
        | refine TE_seq ?_
        | with_reducible refine TE_block ?_
        | with_reducible refine TE_seqY ?_
        | with_reducible refine TX_nil ?_
        | with_reducible refine thenQ_normal ?_
        | with_reducible refine thenQ_ret ?_
        | with_reducible refine blockQ_normal ?_
        | with_reducible refine blockQ_out ?_
        | with_reducible refine thenQ_exit ?_
        | with_reducible refine TX_move (by with_unfolding_all rfl) ?_
        | with_reducible refine TX_assign (by with_unfolding_all rfl) ?_
        | with_reducible refine TX_cmp (by with_unfolding_all rfl) (by with_unfolding_all rfl) (by with_unfolding_all rfl) ?_
        | with_reducible refine TX_ari (by with_unfolding_all rfl) (by with_unfolding_all rfl) (by with_unfolding_all rfl) ?_
        | with_reducible refine TE_cond_t (by with_unfolding_all rfl) (by first | assumption | with_unfolding_all rfl) ?_
        | with_reducible refine TE_cond_f (by with_unfolding_all rfl) (by first | assumption | with_unfolding_all rfl) ?_
        | with_reducible refine TE_ret ?_
        | with_reducible refine TE_skip ?_
        | with_reducible refine TE_exit ?_
      exact done_any (vs := [u]) (.inr rfl) rfl (resR_tmp (by with_unfolding_all rfl) resR_nil) hgb
theorem match_Or_1_ok {x0_ : match_Match} {y : (match_Match × Bool)} (hF : F.match_Or_1 x0_ = some y) {v0_ : AV} {σ : Mem} (h0_ : e_match_Match.rel v0_ x0_)  :
    CallE Try.prog 63 [v0_] σ (fun v σ' => (R2 e_match_Match.rel eB.rel) v y ∧ Ext σ σ') := by
  unfold F.match_Or_1 at hF
  obtain ⟨u1, u3, rfl, h2, h4⟩ := h0_
  refine CallE_of Try.func63 rfl Try.ntmps63 (by simp) ?_
  have hO0 := Own.start σ
  with_unfolding_all refine TE_seq ?_
  with_unfolding_all refine TE_seqY ?_
  have hM5 := MB_none σ
  with_unfolding_all refine TY_box hO0 hM5 rfl rfl ?_
  rintro id6 s7 (hO8 : Own σ [] s7 [.obj id6 [u1, u3]]) hM9
  with_unfolding_all refine TY_alloc hO8 hM9 rfl rfl ?_
  rintro id10 s11 (hO12 : Own σ [] s11 [.obj id10 [.nils, .nils], .obj id6 [u1, u3]]) hM13
  with_unfolding_all refine TX_assign rfl ?_
  with_unfolding_all refine TX_nil ?_
  with_unfolding_all refine thenQ_normal ?_
  with_unfolding_all refine TE_seq ?_
  with_unfolding_all refine TE_seqY ?_
  have hM14 := MB_none s11
  with_unfolding_all refine TX_load_p rfl (MC_none (hO12.obj 1 rfl)) rfl ?_
  with_unfolding_all refine TY_store (v := .agg [u1, u3]) (vc := [u1, u3]) hO12 hM14 (MNe.none _) rfl rfl rfl rfl (by with_unfolding_all exact Nat.le_of_ble_eq_true rfl) (ones_cons (RS.one1 h2) (ones_cons (RS.one1 h4) ones_nil)) rfl ?_
  rintro s15 (hO16 : Own σ [] s15 [.obj id10 [u1, u3], .obj id6 [u1, u3]]) hM17
  with_unfolding_all refine TX_assign rfl ?_
  with_unfolding_all refine TX_nil ?_
  with_unfolding_all refine thenQ_normal ?_
  with_unfolding_all refine TE_ret ?_
  obtain rfl := some_s hF
  exact done_any (vs := [.agg [u1, u3], .bool (true)]) (.inr rfl) rfl (resR_cell rfl (hO16.obj 0 rfl) rfl (resR_tmp rfl resR_nil)) ⟨⟨_, _, rfl, ⟨u1, u3, rfl, h2, h4⟩, rfl⟩, hO16.ext⟩
theorem match_few_ok {x0_ : (List match_Match)} {y : ((List match_Match) × Int)} (hF : F.match_few x0_ = some y) {v0_ : AV} {σ : Mem} (h0_ : (RS e_match_Match) v0_ x0_)  :
    CallE Try.prog 61 [v0_] σ (fun v σ' => (R2 (RS e_match_Match) (eI .i64).rel) v y ∧ Ext σ σ') := by
  unfold F.match_few at hF
  refine CallE_of Try.func61 rfl Try.ntmps61 (by simp) ?_
  have hO0 := Own.start σ
  with_unfolding_all refine TE_seq ?_
  with_unfolding_all refine TE_seqY ?_
  have hM1 := MB_none σ
  with_unfolding_all refine TX_assign rfl ?_
  with_unfolding_all refine TX_assign rfl ?_
  with_unfolding_all refine TX_nil ?_
  with_unfolding_all refine thenQ_normal ?_
  with_unfolding_all refine TE_seq ?_
  with_unfolding_all refine TE_seq ?_
  with_unfolding_all refine TE_seqY ?_
  have hM2 := MB_none σ
  with_unfolding_all refine TX_move rfl ?_
  with_unfolding_all refine TY_len rfl rfl rfl rfl h0_ rfl ?_
  with_unfolding_all refine TX_cmp rfl rfl rfl ?_
  with_unfolding_all refine TX_nil ?_
  with_unfolding_all refine thenQ_normal ?_
  with_unfolding_all refine TE_cond rfl (fun hc3 => ?_) (fun hc3 => ?_)
  · skip
    replace hF := ite_t hc3 hF
    with_unfolding_all refine TE_seq ?_
    with_unfolding_all refine TE_seqY ?_
    have hM4 := MB_none σ
    with_unfolding_all refine TX_assign rfl ?_
    with_unfolding_all refine TX_assign rfl ?_
    with_unfolding_all refine TX_nil ?_
    with_unfolding_all refine thenQ_normal ?_
    with_unfolding_all refine TE_ret ?_
    with_unfolding_all refine thenQ_ret ?_
    obtain rfl := some_s hF
    exact done_any (vs := [.nils, .int .i64 (23)]) (.inr rfl) rfl (resR_tmp rfl (resR_tmp rfl resR_nil)) ⟨⟨_, _, rfl, (RS.nil e_match_Match), rfl⟩, hO0.ext⟩
  · skip
    replace hF := ite_f hc3 hF
    with_unfolding_all refine TE_skip ?_
    with_unfolding_all refine thenQ_normal ?_
    with_unfolding_all refine TE_seq ?_
    with_unfolding_all refine TE_seqY ?_
    have hM5 := MB_none σ
    with_unfolding_all refine TX_move rfl ?_
    with_unfolding_all refine TX_assign rfl ?_
    with_unfolding_all refine TX_assign rfl ?_
    with_unfolding_all refine TX_nil ?_
    with_unfolding_all refine thenQ_normal ?_
    with_unfolding_all refine TE_ret ?_
    obtain rfl := some_s hF
    exact done_any (vs := [v0_, .int .i64 (0)]) (.inr rfl) rfl (resR_tmp rfl (resR_tmp rfl resR_nil)) ⟨⟨_, _, rfl, h0_, rfl⟩, hO0.ext⟩
theorem match_Or_ok {x0_ : (List match_Match)} {x1_ : (List match_Match)} {y : ((List match_Match) × Int)} (hF : F.match_Or x0_ x1_ = some y) {v0_ : AV} {v1_ : AV} {σ : Mem} (h0_ : (RS e_match_Match) v0_ x0_) (h1_ : (RS e_match_Match) v1_ x1_)  :
    CallE Try.prog 18 [v0_, v1_] σ (fun v σ' => (R2 (RS e_match_Match) (eI .i64).rel) v y ∧ Ext σ σ') := by
  unfold F.match_Or at hF
  refine CallE_of Try.func18 rfl Try.ntmps18 (by simp) ?_
  have hO0 := Own.start σ
  with_unfolding_all refine TE_seq ?_
  with_unfolding_all refine TE_seqY ?_
  have hM1 := MB_none σ
  with_unfolding_all refine TX_assign rfl ?_
  with_unfolding_all refine TX_assign rfl ?_
  with_unfolding_all refine TX_nil ?_
  with_unfolding_all refine thenQ_normal ?_
  with_unfolding_all refine TE_seq ?_
  obtain ⟨x2, h3, hF⟩ := bind_s hF
  obtain ⟨x4, h5, hF⟩ := bind_s hF
  obtain ⟨x6, h7, hF⟩ := bind_s hF
  with_unfolding_all refine TE_seqY ?_
  have hM8 := MB_none σ
  with_unfolding_all refine TX_move rfl ?_
  with_unfolding_all refine TX_move rfl ?_
  have h9 : All2 (eL e_match_Match).rel ([v0_, v1_] : List AV) ([x0_, x1_] : (List (List match_Match))) := ⟨h0_, ⟨h1_, trivial⟩⟩
  with_unfolding_all refine TY_buildSlice rfl rfl rfl rfl rfl h9 rfl (by decide) (by with_unfolding_all exact Nat.le_of_ble_eq_true rfl) ?_
  have h10 : RS (eL e_match_Match) (.sl [v0_, v1_] .full) ([x0_, x1_] : (List (List match_Match))) := RS.of h9
  have hc11 : CallE Try.prog 62 [(.sl [v0_, v1_] .full)] σ _ := slices_Concat_match_Match_match_Match_ok h3 h10
  with_unfolding_all refine TY_call hM8 rfl en62 hc11 ?_
  intro v12 s16 hv13 hX14 hM15
  have hO17 := hO0.ext_call hX14
  have hc24 : CallE Try.prog 59 [v12, .fn (.func 63) [] []] s16 _ := match_keep_ok h5 hv13 ⟨63, [], [], rfl, en63, fun _ hX18 v19 x20 y22 h21 hy23 => match_Or_1_ok hy23 h21 ⟩
  with_unfolding_all refine TY_call hM15 rfl en59 hc24 ?_
  intro v25 s29 hv26 hX27 hM28
  have hO30 := hO17.ext_call hX27
  have hc31 : CallE Try.prog 61 [v25] s29 _ := match_few_ok h7 hv26
  with_unfolding_all refine TY_call hM28 rfl en61 hc31 ?_
  intro v32 s36 hv33 hX34 hM35
  have hO37 := hO30.ext_call hX34
  obtain ⟨v38, v39, rfl, h40, h41⟩ := hv33
  obtain rfl := h41
  with_unfolding_all refine TX_extract rfl rfl ?_
  with_unfolding_all refine TX_extract rfl rfl ?_
  with_unfolding_all refine TX_assign rfl ?_
  with_unfolding_all refine TX_assign rfl ?_
  with_unfolding_all refine TX_nil ?_
  with_unfolding_all refine thenQ_normal ?_
  with_unfolding_all refine TE_ret ?_
  obtain rfl := some_s hF
  exact done_any (vs := [v38, .int .i64 (x6.2)]) (.inr rfl) rfl (resR_tmp rfl (resR_tmp rfl resR_nil)) ⟨⟨_, _, rfl, h40, rfl⟩, hO37.ext⟩
theorem law12_both_ok {x0_ : (List match_Span)} {x1_ : (List match_Span)} {y : (List match_Span)} (hF : F.law12_both x0_ x1_ = some y) {v0_ : AV} {v1_ : AV} {σ : Mem} (h0_ : (RS e_match_Span) v0_ x0_) (h1_ : (RS e_match_Span) v1_ x1_)  :
    CallE Try.prog 40 [v0_, v1_] σ (fun v σ' => (RS e_match_Span) v y ∧ Own σ [] σ' [.buf v]) := by
  unfold F.law12_both at hF
  refine CallE_of Try.func40 rfl Try.ntmps40 (by simp) ?_
  have hO0 := Own.start σ
  with_unfolding_all refine TE_seq ?_
  with_unfolding_all refine TE_seqY ?_
  have hM1 := MB_none σ
  with_unfolding_all refine TX_assign rfl ?_
  with_unfolding_all refine TX_nil ?_
  with_unfolding_all refine thenQ_normal ?_
  with_unfolding_all refine TE_seq ?_
  obtain ⟨x2, h3, hF⟩ := bind_s hF
  obtain ⟨x4, h5, hF⟩ := bind_s hF
  with_unfolding_all refine TE_seqY ?_
  have hM6 := MB_none σ
  have h7 : All2 e_match_Span.rel ([] : List AV) ([] : (List match_Span)) := trivial
  with_unfolding_all refine TY_buildSlice rfl rfl rfl rfl rfl h7 rfl (by decide) (by with_unfolding_all exact Nat.le_of_ble_eq_true rfl) ?_
  have h8 : RS e_match_Span (.sl [] .full) ([] : (List match_Span)) := RS.of h7
  with_unfolding_all refine TX_move rfl ?_
  have hO9 : Own σ [] σ [.buf (.sl [] .full)] := hO0.bufFull []
  with_unfolding_all refine TY_append appT25_25 hO9 hM6 rfl rfl rfl rfl h8 rfl h0_ h3 ?_
  rintro u10 s12 (h11 : RS e_match_Span u10 x2) (hO13 : Own σ [] s12 [.buf u10]) hM14
  with_unfolding_all refine TX_move rfl ?_
  with_unfolding_all refine TY_append appT25_25 hO13 hM14 rfl rfl rfl rfl h11 rfl h1_ h5 ?_
  rintro u15 s17 (h16 : RS e_match_Span u15 x4) (hO18 : Own σ [] s17 [.buf u15]) hM19
  with_unfolding_all refine TX_assign rfl ?_
  with_unfolding_all refine TX_nil ?_
  with_unfolding_all refine thenQ_normal ?_
  with_unfolding_all refine TE_ret ?_
  obtain rfl := some_s hF
  exact done_any (vs := [u15]) (.inr rfl) rfl (resR_tmp rfl resR_nil) ⟨h16, hO18.sub 1 rfl⟩
theorem law12_and_ok {x0_ : (List match_Match)} {x1_ : (List match_Match)} {y : ((List match_Match) × Bool)} (hF : F.law12_and x0_ x1_ = some y) {v0_ : AV} {v1_ : AV} {σ : Mem} (h0_ : (RS e_match_Match) v0_ x0_) (h1_ : (RS e_match_Match) v1_ x1_)  :
    CallE Try.prog 21 [v0_, v1_] σ (fun v σ' => (R2 (RS e_match_Match) eB.rel) v y ∧ Ext σ σ') := by
  unfold F.law12_and at hF
  refine CallE_of Try.func21 rfl Try.ntmps21 (by simp) ?_
  have hO0 := Own.start σ
  with_unfolding_all refine TE_seq ?_
  with_unfolding_all refine TE_seqY ?_
  have hM1 := MB_none σ
  with_unfolding_all refine TX_assign rfl ?_
  with_unfolding_all refine TX_assign rfl ?_
  with_unfolding_all refine TX_nil ?_
  with_unfolding_all refine thenQ_normal ?_
  with_unfolding_all refine TE_seq ?_
  with_unfolding_all refine TE_seqY ?_
  have hM2 := MB_none σ
  have h3 : All2 e_match_Match.rel ([] : List AV) ([] : (List match_Match)) := trivial
  with_unfolding_all refine TY_buildSlice rfl rfl rfl rfl rfl h3 rfl (by decide) (by with_unfolding_all exact Nat.le_of_ble_eq_true rfl) ?_
  have h4 : RS e_match_Match (.sl [] .full) ([] : (List match_Match)) := RS.of h3
  with_unfolding_all refine TX_assign rfl ?_
  with_unfolding_all refine TX_nil ?_
  with_unfolding_all refine thenQ_normal ?_
  with_unfolding_all refine TE_seq ?_
  with_unfolding_all refine TE_seq ?_
  with_unfolding_all refine TE_seqY ?_
  have hM5 := MB_none σ
  with_unfolding_all refine TX_move rfl ?_
  with_unfolding_all refine TY_len rfl rfl rfl rfl h0_ rfl ?_
  with_unfolding_all refine TX_move rfl ?_
  with_unfolding_all refine TX_nil ?_
  with_unfolding_all refine thenQ_normal ?_
  with_unfolding_all refine TE_block ?_
  obtain ⟨p12, h18, hF⟩ := bind_s hF
  refine TE_iter (f := F.law12_and_s1 x0_ x1_) (s0 := (([] : (List match_Match)), 0)) (a := p12) (fun (q6 : ((List match_Match) × Int)) z => ∃ (u8 : AV) (s10 : Mem), RS e_match_Match u8 q6.1 ∧ Own σ [] s10 [.buf u8] ∧ Le z ⟨fr 47 [(0, v0_), (1, v1_), (6, u8), (12, v0_), (13, .int .i64 ((x0_.length : Int))), (14, .int .i64 (q6.2))], [], s10⟩) (fun (p12 : (List match_Match)) e z => (e = .exit 0 ∧ ∃ (u13 : AV) (s15 : Mem), RS e_match_Match u13 p12 ∧ Own σ [] s15 [.buf u13] ∧ Le z ⟨fr 47 [(0, v0_), (1, v1_), (6, u13)], [], s15⟩)) h18 ?_ ?_ ?_
  · skip
    have hO19 : Own σ [] σ [.buf (.sl [] .full)] := hO0.bufFull []
    exact ⟨(.sl [] .full), σ, h4, (hO19.sub 1 rfl), (Le_fr ⟨rfl, ⟨rfl, ⟨rfl, ⟨rfl, ⟨rfl, ⟨rfl, trivial⟩⟩⟩⟩⟩⟩)⟩
  · skip
    clear hF
    rintro q6 zq6 r7 ⟨u8, s10, h9, hO11, hz20⟩ hF
    unfold F.law12_and_s1 at hF
    refine TE_pre hz20 ?_
    with_unfolding_all refine TE_seq ?_
    with_unfolding_all refine TE_seqY ?_
    have hM21 := MB_none s10
    with_unfolding_all refine TX_cmp rfl rfl rfl ?_
    with_unfolding_all refine TX_nil ?_
    with_unfolding_all refine thenQ_normal ?_
    with_unfolding_all refine TE_seq ?_
    with_unfolding_all refine TE_cond rfl (fun hc22 => ?_) (fun hc22 => ?_)
    · skip
      replace hF := ite_t hc22 hF
      with_unfolding_all refine TE_skip ?_
      with_unfolding_all refine thenQ_normal ?_
      with_unfolding_all refine TE_seq ?_
      with_unfolding_all refine TE_block ?_
      with_unfolding_all refine TE_seq ?_
      obtain ⟨x23, h24, hF⟩ := bind_s hF
      with_unfolding_all refine TE_seqY ?_
      have hM29 := MB_none s10
      with_unfolding_all refine TY_idx (E := e_match_Match) rfl rfl rfl h0_ rfl h24 ?_
      intro u30 h31
      obtain ⟨u32, u34, rfl, h33, h35⟩ := h31
      with_unfolding_all refine TX_load_c rfl rfl ?_
      with_unfolding_all refine TY_alloc hO11 hM29 rfl rfl ?_
      rintro id36 s37 (hO38 : Own σ [] s37 [.obj id36 [.nils, .nils], .buf u8]) hM39
      with_unfolding_all refine TY_store (v := .agg [u32, u34]) (vc := [u32, u34]) hO38 hM39 (MNe.none _) rfl rfl rfl rfl (by with_unfolding_all exact Nat.le_of_ble_eq_true rfl) (ones_cons (RS.one1 h33) (ones_cons (RS.one1 h35) ones_nil)) rfl ?_
      rintro s40 (hO41 : Own σ [] s40 [.obj id36 [u32, u34], .buf u8]) hM42
      with_unfolding_all refine TX_nil ?_
      with_unfolding_all refine thenQ_normal ?_
      with_unfolding_all refine TE_seq ?_
      with_unfolding_all refine TE_seqY ?_
      have hM43 := MB_none s40
      with_unfolding_all refine TX_move rfl ?_
      with_unfolding_all refine TY_len rfl rfl rfl rfl h1_ rfl ?_
      with_unfolding_all refine TX_move rfl ?_
      with_unfolding_all refine TX_nil ?_
      with_unfolding_all refine thenQ_normal ?_
      with_unfolding_all refine TE_block ?_
      obtain ⟨p50, h56, hF⟩ := bind_s hF
      refine TE_iter (f := F.law12_and_s2 x1_ x23) (s0 := (q6.1, 0)) (a := p50) (fun (q44 : ((List match_Match) × Int)) z => ∃ (u46 : AV) (s48 : Mem), RS e_match_Match u46 q44.1 ∧ Own σ [] s48 [.buf u46, .obj id36 [u32, u34]] ∧ Le z ⟨fr 47 [(0, v0_), (1, v1_), (6, u46), (8, .ptr id36 0), (12, v0_), (13, .int .i64 ((x0_.length : Int))), (14, .int .i64 (q6.2)), (18, v1_), (19, .int .i64 ((x1_.length : Int))), (20, .int .i64 (q44.2))], [], s48⟩) (fun (p50 : (List match_Match)) e z => (e = .exit 2 ∧ ∃ (u51 : AV) (s53 : Mem), RS e_match_Match u51 p50 ∧ Own σ [] s53 [.buf u51, .obj id36 [u32, u34]] ∧ Le z ⟨fr 47 [(0, v0_), (1, v1_), (6, u51), (12, v0_), (13, .int .i64 ((x0_.length : Int))), (14, .int .i64 (q6.2))], [], s53⟩)) h56 ?_ ?_ ?_
      · skip
        have hO57 : Own σ [] s40 [.buf u8, .obj id36 [u32, u34]] := hO41.front 1 rfl rfl
        exact ⟨u8, s40, h9, (hO57.sub 2 rfl), (Le_fr ⟨rfl, ⟨rfl, ⟨rfl, ⟨rfl, ⟨rfl, ⟨rfl, ⟨rfl, ⟨rfl, ⟨rfl, ⟨rfl, trivial⟩⟩⟩⟩⟩⟩⟩⟩⟩⟩)⟩
      · skip
        clear hF
        rintro q44 zq44 r45 ⟨u46, s48, h47, hO49, hz58⟩ hF
        unfold F.law12_and_s2 at hF
        refine TE_pre hz58 ?_
        with_unfolding_all refine TE_seq ?_
        with_unfolding_all refine TE_seqY ?_
        have hM59 := MB_none s48
        with_unfolding_all refine TX_cmp rfl rfl rfl ?_
        with_unfolding_all refine TX_nil ?_
        with_unfolding_all refine thenQ_normal ?_
        with_unfolding_all refine TE_seq ?_
        with_unfolding_all refine TE_cond rfl (fun hc60 => ?_) (fun hc60 => ?_)
        · skip
          replace hF := ite_t hc60 hF
          with_unfolding_all refine TE_skip ?_
          with_unfolding_all refine thenQ_normal ?_
          with_unfolding_all refine TE_seq ?_
          with_unfolding_all refine TE_block ?_
          with_unfolding_all refine TE_seq ?_
          obtain ⟨x61, h62, hF⟩ := bind_s hF
          with_unfolding_all refine TE_seqY ?_
          have hM67 := MB_none s48
          with_unfolding_all refine TY_idx (E := e_match_Match) rfl rfl rfl h1_ rfl h62 ?_
          intro u68 h69
          obtain ⟨u70, u72, rfl, h71, h73⟩ := h69
          with_unfolding_all refine TX_load_c rfl rfl ?_
          with_unfolding_all refine TY_alloc hO49 hM67 rfl rfl ?_
          rintro id74 s75 (hO76 : Own σ [] s75 [.obj id74 [.nils, .nils], .buf u46, .obj id36 [u32, u34]]) hM77
          with_unfolding_all refine TY_store (v := .agg [u70, u72]) (vc := [u70, u72]) hO76 hM77 (MNe.none _) rfl rfl rfl rfl (by with_unfolding_all exact Nat.le_of_ble_eq_true rfl) (ones_cons (RS.one1 h71) (ones_cons (RS.one1 h73) ones_nil)) rfl ?_
          rintro s78 (hO79 : Own σ [] s78 [.obj id74 [u70, u72], .buf u46, .obj id36 [u32, u34]]) hM80
          with_unfolding_all refine TX_nil ?_
          with_unfolding_all refine thenQ_normal ?_
          obtain ⟨x81, h82, hF⟩ := bind_s hF
          obtain ⟨x83, h84, hF⟩ := bind_s hF
          obtain ⟨x85, h86, hF⟩ := bind_s hF
          have hB87 : Bs [(id36, [u32, u34]), (id74, [u70, u72])] s78 := Bs.cons (hO79.obj 2 rfl) (Bs.cons (hO79.obj 0 rfl) (Bs.nil _))
          with_unfolding_all refine TE_drawY [(id36, [u32, u34]), (id74, [u70, u72])] (by with_unfolding_all rfl) (by kernel_rfl) hB87 ?_
          have hM88 := MB_some hB87
          with_unfolding_all refine TX_move rfl ?_
          with_unfolding_all refine TX_fieldAddr_p rfl rfl rfl ?_
          with_unfolding_all refine TX_load_p rfl (MC_some 0 rfl) rfl ?_
          with_unfolding_all refine TX_fieldAddr_p rfl rfl rfl ?_
          with_unfolding_all refine TX_load_p rfl (MC_some 1 rfl) rfl ?_
          have hc89 : CallE Try.prog 40 [u32, u70] s78 _ := law12_both_ok h82 h33 h71
          with_unfolding_all refine TY_callN hM88 rfl en40 hc89 (fun _ _ h => ⟨_, h.2⟩) ?_
          rintro v90 s94 ⟨hv91, hX92⟩ hM93
          have hO95 : Own σ [] s94 [.buf v90, .obj id74 [u70, u72], .buf u46, .obj id36 [u32, u34]] := Own.call (A := []) hO79 hX92
          with_unfolding_all refine TX_fieldAddr_p rfl rfl rfl ?_
          with_unfolding_all refine TX_load_p rfl (MC_some 0 rfl) rfl ?_
          with_unfolding_all refine TX_fieldAddr_p rfl rfl rfl ?_
          with_unfolding_all refine TX_load_p rfl (MC_some 1 rfl) rfl ?_
          have hc96 : CallE Try.prog 40 [u34, u72] s94 _ := law12_both_ok h84 h35 h73
          with_unfolding_all refine TY_callN hM93 rfl en40 hc96 (fun _ _ h => ⟨_, h.2⟩) ?_
          rintro v97 s101 ⟨hv98, hX99⟩ hM100
          have hO102 : Own σ [] s101 [.buf v97, .buf v90, .obj id74 [u70, u72], .buf u46, .obj id36 [u32, u34]] := Own.call (A := []) hO95 hX99
          with_unfolding_all refine TY_build [v90, v97] rfl rfl rfl (by with_unfolding_all exact Fill.cons rfl (RS.cells hv91) rfl (by with_unfolding_all exact Nat.le_of_ble_eq_true rfl) (Fill.cons rfl (RS.cells hv98) rfl (by with_unfolding_all exact Nat.le_of_ble_eq_true rfl) (Fill.nil _))) (by with_unfolding_all rfl) ?_
          have h103 : All2 e_match_Match.rel ([.agg [v90, v97]] : List AV) ([(F.match_Match.mk x81 x83)] : (List match_Match)) := ⟨⟨v90, v97, rfl, hv91, hv98⟩, trivial⟩
          with_unfolding_all refine TY_buildSlice rfl rfl rfl rfl rfl h103 rfl (by decide) (by with_unfolding_all exact Nat.le_of_ble_eq_true rfl) ?_
          have h104 : RS e_match_Match (.sl [.agg [v90, v97]] .full) ([(F.match_Match.mk x81 x83)] : (List match_Match)) := RS.of h103
          have hO105 : Own σ [] s101 [.buf u46, .buf v97, .buf v90, .obj id74 [u70, u72], .obj id36 [u32, u34]] := hO102.front 3 rfl rfl
          with_unfolding_all refine TY_append appT22_22 hO105 hM100 rfl rfl rfl rfl h47 rfl h104 h86 ?_
          rintro u106 s108 (h107 : RS e_match_Match u106 x85) (hO109 : Own σ [] s108 [.buf u106, .buf v97, .buf v90, .obj id74 [u70, u72], .obj id36 [u32, u34]]) hM110
          with_unfolding_all refine TX_assign rfl ?_
          with_unfolding_all refine TX_nil ?_
          with_unfolding_all refine blockQ_normal ?_
          with_unfolding_all refine thenQ_normal ?_
          with_unfolding_all refine TE_seqY ?_
          have hM111 := MB_none s108
          with_unfolding_all refine TX_ari rfl rfl rfl ?_
          with_unfolding_all refine TX_move rfl ?_
          with_unfolding_all refine TX_nil ?_
          obtain rfl := some_s hF
          have hO112 : Own σ [] s108 [.obj id36 [u32, u34], .buf u106, .buf v97, .buf v90, .obj id74 [u70, u72]] := hO109.front 4 rfl rfl
          have hO113 : Own σ [] s108 [.buf u106, .obj id36 [u32, u34], .buf v97, .buf v90, .obj id74 [u70, u72]] := hO112.front 1 rfl rfl
          exact iterQ_again ⟨u106, s108, h107, (hO113.sub 2 rfl), (Le_fr ⟨rfl, ⟨rfl, ⟨rfl, ⟨rfl, ⟨rfl, ⟨rfl, ⟨rfl, ⟨rfl, ⟨rfl, ⟨rfl, trivial⟩⟩⟩⟩⟩⟩⟩⟩⟩⟩)⟩
        · skip
          replace hF := ite_f hc60 hF
          with_unfolding_all refine TE_exit ?_
          with_unfolding_all refine thenQ_exit ?_
          obtain rfl := some_s hF
          have hO114 : Own σ [] s48 [.obj id36 [u32, u34], .buf u46] := hO49.front 1 rfl rfl
          have hO115 : Own σ [] s48 [.buf u46, .obj id36 [u32, u34]] := hO114.front 1 rfl rfl
          exact iterQ_exit (⟨rfl, u46, s48, h47, (hO115.sub 2 rfl), (Le_fr ⟨rfl, ⟨rfl, ⟨rfl, ⟨rfl, ⟨rfl, ⟨rfl, trivial⟩⟩⟩⟩⟩⟩)⟩)
      · skip
        rintro eq44 zq44 (⟨rfl, u51, s53, h52, hO54, hz116⟩)
        with_unfolding_all refine blockQ_out ?_
        with_unfolding_all refine blockQ_normal ?_
        with_unfolding_all refine thenQ_normal ?_
        refine TE_pre hz116 ?_
        with_unfolding_all refine TE_seqY ?_
        have hM117 := MB_none s53
        with_unfolding_all refine TX_ari rfl rfl rfl ?_
        with_unfolding_all refine TX_move rfl ?_
        with_unfolding_all refine TX_nil ?_
        obtain rfl := some_s hF
        exact iterQ_again ⟨u51, s53, h52, (hO54.sub 1 rfl), (Le_fr ⟨rfl, ⟨rfl, ⟨rfl, ⟨rfl, ⟨rfl, ⟨rfl, trivial⟩⟩⟩⟩⟩⟩)⟩
    · skip
      replace hF := ite_f hc22 hF
      with_unfolding_all refine TE_exit ?_
      with_unfolding_all refine thenQ_exit ?_
      obtain rfl := some_s hF
      exact iterQ_exit (⟨rfl, u8, s10, h9, (hO11.sub 1 rfl), (Le_fr ⟨rfl, ⟨rfl, ⟨rfl, trivial⟩⟩⟩)⟩)
  · skip
    rintro eq6 zq6 (⟨rfl, u13, s15, h14, hO16, hz118⟩)
    with_unfolding_all refine blockQ_out ?_
    with_unfolding_all refine thenQ_normal ?_
    refine TE_pre hz118 ?_
    with_unfolding_all refine TE_seq ?_
    with_unfolding_all refine TE_seqY ?_
    have hM119 := MB_none s15
    with_unfolding_all refine TX_move rfl ?_
    with_unfolding_all refine TX_move rfl ?_
    with_unfolding_all refine TY_len rfl rfl rfl rfl h0_ rfl ?_
    with_unfolding_all refine TX_move rfl ?_
    with_unfolding_all refine TY_len rfl rfl rfl rfl h1_ rfl ?_
    with_unfolding_all refine TX_ari rfl rfl rfl ?_
    with_unfolding_all refine TX_cmp rfl rfl rfl ?_
    with_unfolding_all refine TX_assign rfl ?_
    with_unfolding_all refine TX_assign rfl ?_
    with_unfolding_all refine TX_nil ?_
    with_unfolding_all refine thenQ_normal ?_
    with_unfolding_all refine TE_ret ?_
    obtain rfl := some_s hF
    exact done_any (vs := [u13, .bool ((decide ((IntKind.wrap .i64 ((x0_.length : Int) * (x1_.length : Int))) ≤ 400)))]) (.inr rfl) rfl (resR_tmp rfl (resR_tmp rfl resR_nil)) ⟨⟨_, _, rfl, h14, rfl⟩, hO16.ext⟩
end Go.Proofs.Ytihbdelgoapeoaa.K
