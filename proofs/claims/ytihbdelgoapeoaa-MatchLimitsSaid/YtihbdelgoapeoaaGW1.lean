/- Walks. Printed. -/
import Derived.Test.YtihbdelgoapeoaaGE
namespace Go.Proofs.Ytihbdelgoapeoaa.K
open Go Go.RowKit F
set_option maxRecDepth 100000
set_option maxHeartbeats 4000000
set_option linter.unusedVariables false
set_option linter.unusedSimpArgs false
theorem match_Of_ok {x0_ : (List match_Span)} {y : (List match_Match)} (hF : F.match_Of x0_ = some y) {v0_ : AV} {σ : Mem} (h0_ : (RS e_match_Span) v0_ x0_)  :
    CallE Try.prog 26 [v0_] σ (fun v σ' => (RS e_match_Match) v y ∧ Ext σ σ') := by
  unfold F.match_Of at hF
  refine CallE_of Try.func26 rfl Try.ntmps26 (by simp) ?_
  have hO0 := Own.start σ
  with_unfolding_all refine TE_seq ?_
  with_unfolding_all refine TE_seqY ?_
  have hM1 := MB_none σ
  with_unfolding_all refine TX_assign rfl ?_
  with_unfolding_all refine TX_nil ?_
  with_unfolding_all refine thenQ_normal ?_
  with_unfolding_all refine TE_seq ?_
  with_unfolding_all refine TE_seqY ?_
  have hM2 := MB_none σ
  with_unfolding_all refine TX_assign rfl ?_
  with_unfolding_all refine TX_nil ?_
  with_unfolding_all refine thenQ_normal ?_
  with_unfolding_all refine TE_seq ?_
  with_unfolding_all refine TE_seq ?_
  with_unfolding_all refine TE_seqY ?_
  have hM3 := MB_none σ
  with_unfolding_all refine TX_move rfl ?_
  with_unfolding_all refine TY_len rfl rfl rfl rfl h0_ rfl ?_
  with_unfolding_all refine TX_move rfl ?_
  with_unfolding_all refine TX_nil ?_
  with_unfolding_all refine thenQ_normal ?_
  with_unfolding_all refine TE_block ?_
  obtain ⟨p10, h16, hF⟩ := bind_s hF
  refine TE_iter (f := F.match_Of_s1 x0_) (s0 := ([], 0)) (a := p10) (fun (q4 : ((List match_Match) × Int)) z => ∃ (u6 : AV) (s8 : Mem), RS e_match_Match u6 q4.1 ∧ Own σ [] s8 [.buf u6] ∧ Le z ⟨fr 20 [(3, u6), (6, v0_), (7, .int .i64 ((x0_.length : Int))), (8, .int .i64 (q4.2))], [], s8⟩) (fun (p10 : (List match_Match)) e z => (e = .exit 0 ∧ ∃ (u11 : AV) (s13 : Mem), RS e_match_Match u11 p10 ∧ Own σ [] s13 [.buf u11] ∧ Le z ⟨fr 20 [(3, u11)], [], s13⟩)) h16 ?_ ?_ ?_
  · skip
    have hO17 : Own σ [] σ [.buf .nils] := hO0.buf0
    exact ⟨.nils, σ, (RS.nil e_match_Match), (hO17.sub 1 rfl), (Le_fr ⟨rfl, ⟨rfl, ⟨rfl, ⟨rfl, trivial⟩⟩⟩⟩)⟩
  · skip
    clear hF
    rintro q4 zq4 r5 ⟨u6, s8, h7, hO9, hz18⟩ hF
    unfold F.match_Of_s1 at hF
    refine TE_pre hz18 ?_
    with_unfolding_all refine TE_seq ?_
    with_unfolding_all refine TE_seqY ?_
    have hM19 := MB_none s8
    with_unfolding_all refine TX_cmp rfl rfl rfl ?_
    with_unfolding_all refine TX_nil ?_
    with_unfolding_all refine thenQ_normal ?_
    with_unfolding_all refine TE_seq ?_
    with_unfolding_all refine TE_cond rfl (fun hc20 => ?_) (fun hc20 => ?_)
    · skip
      replace hF := ite_t hc20 hF
      with_unfolding_all refine TE_skip ?_
      with_unfolding_all refine thenQ_normal ?_
      with_unfolding_all refine TE_seq ?_
      with_unfolding_all refine TE_block ?_
      with_unfolding_all refine TE_seq ?_
      obtain ⟨x21, h22, hF⟩ := bind_s hF
      with_unfolding_all refine TE_seqY ?_
      have hM23 := MB_none s8
      with_unfolding_all refine TY_idx (E := e_match_Span) rfl rfl rfl h0_ rfl h22 ?_
      intro u24 h25
      obtain rfl := h25
      with_unfolding_all refine TX_load_c rfl rfl ?_
      with_unfolding_all refine TY_alloc hO9 hM23 rfl rfl ?_
      rintro id26 s27 (hO28 : Own σ [] s27 [.obj id26 [.int .i64 (0), .int .i64 (0), .int .i64 (0), .int .i64 (0)], .buf u6]) hM29
      with_unfolding_all refine TY_store (v := .agg [.int .i64 (x21.From), .int .i64 (x21.To), .int .i64 (x21.Part), .int .i64 (x21.Weight)]) (vc := [.int .i64 (x21.From), .int .i64 (x21.To), .int .i64 (x21.Part), .int .i64 (x21.Weight)]) hO28 hM29 (MNe.none _) rfl rfl rfl rfl (by with_unfolding_all exact Nat.le_of_ble_eq_true rfl) (ones_cons rfl (ones_cons rfl (ones_cons rfl (ones_cons rfl ones_nil)))) rfl ?_
      rintro s30 (hO31 : Own σ [] s30 [.obj id26 [.int .i64 (x21.From), .int .i64 (x21.To), .int .i64 (x21.Part), .int .i64 (x21.Weight)], .buf u6]) hM32
      with_unfolding_all refine TX_nil ?_
      with_unfolding_all refine thenQ_normal ?_
      obtain ⟨x33, h34, hF⟩ := bind_s hF
      with_unfolding_all refine TE_seqY ?_
      have hM35 := MB_none s30
      with_unfolding_all refine TX_move rfl ?_
      with_unfolding_all refine TX_load_p rfl (MC_none (hO31.obj 0 rfl)) rfl ?_
      have h36 : All2 e_match_Span.rel ([.agg [.int .i64 (x21.From), .int .i64 (x21.To), .int .i64 (x21.Part), .int .i64 (x21.Weight)]] : List AV) ([x21] : (List match_Span)) := ⟨rfl, trivial⟩
      with_unfolding_all refine TY_buildSlice rfl rfl rfl rfl rfl h36 rfl (by decide) (by with_unfolding_all exact Nat.le_of_ble_eq_true rfl) ?_
      have h37 : RS e_match_Span (.sl [.agg [.int .i64 (x21.From), .int .i64 (x21.To), .int .i64 (x21.Part), .int .i64 (x21.Weight)]] .full) ([x21] : (List match_Span)) := RS.of h36
      with_unfolding_all refine TY_build [(.sl [.agg [.int .i64 (x21.From), .int .i64 (x21.To), .int .i64 (x21.Part), .int .i64 (x21.Weight)]] .full), .nils] rfl rfl rfl (by with_unfolding_all exact Fill.cons rfl (RS.cells h37) rfl (by with_unfolding_all exact Nat.le_of_ble_eq_true rfl) (Fill.nil _)) (by with_unfolding_all rfl) ?_
      have h38 : All2 e_match_Match.rel ([.agg [(.sl [.agg [.int .i64 (x21.From), .int .i64 (x21.To), .int .i64 (x21.Part), .int .i64 (x21.Weight)]] .full), .nils]] : List AV) ([(F.match_Match.mk ([x21] : (List match_Span)) [])] : (List match_Match)) := ⟨⟨(.sl [.agg [.int .i64 (x21.From), .int .i64 (x21.To), .int .i64 (x21.Part), .int .i64 (x21.Weight)]] .full), .nils, rfl, h37, (RS.nil e_match_Span)⟩, trivial⟩
      with_unfolding_all refine TY_buildSlice rfl rfl rfl rfl rfl h38 rfl (by decide) (by with_unfolding_all exact Nat.le_of_ble_eq_true rfl) ?_
      have h39 : RS e_match_Match (.sl [.agg [(.sl [.agg [.int .i64 (x21.From), .int .i64 (x21.To), .int .i64 (x21.Part), .int .i64 (x21.Weight)]] .full), .nils]] .full) ([(F.match_Match.mk ([x21] : (List match_Span)) [])] : (List match_Match)) := RS.of h38
      have hO40 : Own σ [] s30 [.buf u6, .obj id26 [.int .i64 (x21.From), .int .i64 (x21.To), .int .i64 (x21.Part), .int .i64 (x21.Weight)]] := hO31.front 1 rfl rfl
      with_unfolding_all refine TY_append appT22_22 hO40 hM35 rfl rfl rfl rfl h7 rfl h39 h34 ?_
      rintro u41 s43 (h42 : RS e_match_Match u41 x33) (hO44 : Own σ [] s43 [.buf u41, .obj id26 [.int .i64 (x21.From), .int .i64 (x21.To), .int .i64 (x21.Part), .int .i64 (x21.Weight)]]) hM45
      with_unfolding_all refine TX_assign rfl ?_
      with_unfolding_all refine TX_nil ?_
      with_unfolding_all refine blockQ_normal ?_
      with_unfolding_all refine thenQ_normal ?_
      with_unfolding_all refine TE_seqY ?_
      have hM46 := MB_none s43
      with_unfolding_all refine TX_ari rfl rfl rfl ?_
      with_unfolding_all refine TX_move rfl ?_
      with_unfolding_all refine TX_nil ?_
      obtain rfl := some_s hF
      exact iterQ_again ⟨u41, s43, h42, (hO44.sub 1 rfl), (Le_fr ⟨rfl, ⟨rfl, ⟨rfl, ⟨rfl, trivial⟩⟩⟩⟩)⟩
    · skip
      replace hF := ite_f hc20 hF
      with_unfolding_all refine TE_exit ?_
      with_unfolding_all refine thenQ_exit ?_
      obtain rfl := some_s hF
      exact iterQ_exit (⟨rfl, u6, s8, h7, (hO9.sub 1 rfl), (Le_fr ⟨rfl, trivial⟩)⟩)
  · skip
    rintro eq4 zq4 (⟨rfl, u11, s13, h12, hO14, hz47⟩)
    with_unfolding_all refine blockQ_out ?_
    with_unfolding_all refine thenQ_normal ?_
    refine TE_pre hz47 ?_
    with_unfolding_all refine TE_seq ?_
    with_unfolding_all refine TE_seqY ?_
    have hM48 := MB_none s13
    with_unfolding_all refine TX_move rfl ?_
    with_unfolding_all refine TX_assign rfl ?_
    with_unfolding_all refine TX_nil ?_
    with_unfolding_all refine thenQ_normal ?_
    with_unfolding_all refine TE_ret ?_
    obtain rfl := some_s hF
    exact done_any (vs := [u11]) (.inr rfl) rfl (resR_tmp rfl resR_nil) ⟨h12, hO14.ext⟩
theorem slices_Grow_match_Span_match_Span_ok {N : Nat} (hN : N ≤ 2147483648) (σ : Mem) : CallE Try.prog 101 [.nils, .int .i64 N] σ (fun v σ' => GB e_match_Span σ σ' N v ([] : (List match_Span))) := by
  have hO0 := Own.start σ
  have h1 : decide ((N : Int) < 0) = false := decide_eq_false (by omega)
  have hw0 : IntKind.i64.wrap (0 - 0) = 0 := by decide
  have hw : IntKind.i64.wrap ((N : Int) - IntKind.i64.wrap (0 - 0)) = N := by rw [hw0]; exact (IntWalk.i64_in _ ⟨by omega, by omega⟩).trans (by omega)
  rcases Nat.eq_zero_or_pos N with hz | hz
  · have h2 : decide (IntKind.i64.wrap ((N : Int) - IntKind.i64.wrap (0 - 0)) > 0) = false := decide_eq_false (by rw [hw]; omega)
    refine CallE_of Try.func101 rfl Try.ntmps101 (by simp) ?_
    repeat' first
      | with_reducible refine TX_cap_nil (by with_unfolding_all rfl) (by with_unfolding_all rfl) (by with_unfolding_all rfl) (by with_unfolding_all rfl) (by with_unfolding_all rfl) ?_
      | with_reducible refine TX_len_nil (by with_unfolding_all rfl) (by with_unfolding_all rfl) (by with_unfolding_all rfl) (by with_unfolding_all rfl) (by with_unfolding_all rfl) ?_
      | refine TE_seq ?_
      | with_reducible refine TE_block ?_
      | with_reducible refine TE_seqY ?_
      | with_reducible refine TX_nil ?_
      | with_reducible refine thenQ_normal ?_
      | with_reducible refine thenQ_ret ?_
      | with_reducible refine blockQ_normal ?_
      | with_reducible refine blockQ_out ?_
      | with_reducible refine thenQ_exit ?_
      | with_reducible refine TX_move (by with_unfolding_all rfl) ?_
      | with_reducible refine TX_assign (by with_unfolding_all rfl) ?_
      | with_reducible refine TX_cmp (by with_unfolding_all rfl) (by with_unfolding_all rfl) (by with_unfolding_all rfl) ?_
      | with_reducible refine TX_ari (by with_unfolding_all rfl) (by with_unfolding_all rfl) (by with_unfolding_all rfl) ?_
      | with_reducible refine TE_cond_t (by with_unfolding_all rfl) (by first | assumption | with_unfolding_all rfl) ?_
      | with_reducible refine TE_cond_f (by with_unfolding_all rfl) (by first | assumption | with_unfolding_all rfl) ?_
      | with_reducible refine TE_ret ?_
      | with_reducible refine TE_skip ?_
      | with_reducible refine TE_exit ?_
    exact done_any (vs := [.nils]) (.inr rfl) rfl (resR_tmp (by with_unfolding_all rfl) resR_nil) (.inl ⟨hz, rfl, rfl, Ext.refl _⟩)
  · have h2 : decide (IntKind.i64.wrap ((N : Int) - IntKind.i64.wrap (0 - 0)) > 0) = true := decide_eq_true (by rw [hw]; omega)
    obtain ⟨cs, hcl, hap⟩ := make_nil (P := Try.prog) (σ := σ) (t := 25) (u := 3) (e := 29) (k := .i64) (by with_unfolding_all rfl) (by with_unfolding_all rfl) (by with_unfolding_all rfl) (by with_unfolding_all rfl) (by with_unfolding_all rfl) (by with_unfolding_all exact Nat.le_of_ble_eq_true rfl) hz hN
    have hap2 : appendX Try.prog σ 25 3 .nils (.int .i64 (IntKind.i64.wrap ((N : Int) - IntKind.i64.wrap (0 - 0)))) = some (.msl σ.length 0 N N, σ ++ [.cells cs]) := by rw [hw]; exact hap
    have hO1 := hO0.alloc cs
    refine CallE_of Try.func101 rfl Try.ntmps101 (by simp) ?_
    repeat' first
      | with_reducible refine TX_cap_nil (by with_unfolding_all rfl) (by with_unfolding_all rfl) (by with_unfolding_all rfl) (by with_unfolding_all rfl) (by with_unfolding_all rfl) ?_
      | with_reducible refine TX_len_nil (by with_unfolding_all rfl) (by with_unfolding_all rfl) (by with_unfolding_all rfl) (by with_unfolding_all rfl) (by with_unfolding_all rfl) ?_
      | with_reducible refine TX_slice_nil (by with_unfolding_all rfl) (by with_unfolding_all rfl) (by with_unfolding_all rfl) (by with_unfolding_all rfl) (by with_unfolding_all rfl) rfl ?_
      | with_reducible refine TX_appendX (by with_unfolding_all rfl) (by with_unfolding_all rfl) (by with_unfolding_all rfl) (by with_unfolding_all rfl) (by with_unfolding_all rfl) hap2 (MB_none _) ?_
      | with_reducible refine TX_mslice (by with_unfolding_all rfl) (by with_unfolding_all rfl) (by with_unfolding_all rfl) (by with_unfolding_all rfl) (by with_unfolding_all rfl) (by decide) (by decide) (by omega) (by omega) ?_
      | refine TE_seq ?_
      | with_reducible refine TE_block ?_
      | with_reducible refine TE_seqY ?_
      | with_reducible refine TX_nil ?_
      | with_reducible refine thenQ_normal ?_
      | with_reducible refine thenQ_ret ?_
      | with_reducible refine blockQ_normal ?_
      | with_reducible refine blockQ_out ?_
      | with_reducible refine thenQ_exit ?_
      | with_reducible refine TX_move (by with_unfolding_all rfl) ?_
      | with_reducible refine TX_assign (by with_unfolding_all rfl) ?_
      | with_reducible refine TX_cmp (by with_unfolding_all rfl) (by with_unfolding_all rfl) (by with_unfolding_all rfl) ?_
      | with_reducible refine TX_ari (by with_unfolding_all rfl) (by with_unfolding_all rfl) (by with_unfolding_all rfl) ?_
      | with_reducible refine TE_cond_t (by with_unfolding_all rfl) (by first | assumption | with_unfolding_all rfl) ?_
      | with_reducible refine TE_cond_f (by with_unfolding_all rfl) (by first | assumption | with_unfolding_all rfl) ?_
      | with_reducible refine TE_ret ?_
      | with_reducible refine TE_skip ?_
      | with_reducible refine TE_exit ?_
    exact done_any (vs := [.msl σ.length 0 0 N]) (.inr rfl) rfl (resR_tmp (by with_unfolding_all rfl) resR_nil) (Or.inr ⟨σ.length, cs, [], hz, rfl, hO1, hcl, by simp [flat], trivial⟩)
theorem slices_Concat_match_Span_match_Span_ok {x0_ : List (List match_Span)} {y : (List match_Span)} (hF : F.slices_Concat_match_Span_match_Span x0_ = some y) {v0_ : AV} {σ : Mem} (h0_ : RS (eL e_match_Span) v0_ x0_) : CallE Try.prog 96 [v0_] σ (fun v σ' => RS e_match_Span v y ∧ Ext σ σ') := by
  unfold F.slices_Concat_match_Span_match_Span lcat at hF
  split at hF
  case isFalse => cases hF
  rename_i hlen
  cases hF
  have hlen' : x0_.flatten.length ≤ 2147483648 := hlen.2
  have hlen2 : x0_.length ≤ 2147483648 := hlen.1
  refine CallE.ghost (R := fun v σ' => GB e_match_Span σ σ' x0_.flatten.length v x0_.flatten) ?_ (fun v σ' h => by
    obtain ⟨v', σ'', g1, g2, g3⟩ := h.ghost rfl hlen'
    exact ⟨v', σ'', g1, g2, g3⟩)
  have hO0 := Own.start σ
  refine CallE_of Try.func96 rfl Try.ntmps96 (by simp) ?_
  repeat' first
    | with_reducible refine TY_len (E := eL e_match_Span) (by with_unfolding_all rfl) (by with_unfolding_all rfl) (by with_unfolding_all rfl) (by with_unfolding_all rfl) h0_ (by with_unfolding_all rfl) ?_
    | refine TE_seq ?_
    | with_reducible refine TE_block ?_
    | with_reducible refine TE_seqY ?_
    | with_reducible refine TX_nil ?_
    | with_reducible refine thenQ_normal ?_
    | with_reducible refine thenQ_ret ?_
    | with_reducible refine blockQ_normal ?_
    | with_reducible refine blockQ_out ?_
    | with_reducible refine thenQ_exit ?_
    | with_reducible refine TX_move (by with_unfolding_all rfl) ?_
    | with_reducible refine TX_assign (by with_unfolding_all rfl) ?_
    | with_reducible refine TX_cmp (by with_unfolding_all rfl) (by with_unfolding_all rfl) (by with_unfolding_all rfl) ?_
    | with_reducible refine TX_ari (by with_unfolding_all rfl) (by with_unfolding_all rfl) (by with_unfolding_all rfl) ?_
    | with_reducible refine TE_cond_t (by with_unfolding_all rfl) (by first | assumption | with_unfolding_all rfl) ?_
    | with_reducible refine TE_cond_f (by with_unfolding_all rfl) (by first | assumption | with_unfolding_all rfl) ?_
    | with_reducible refine TE_ret ?_
    | with_reducible refine TE_skip ?_
    | with_reducible refine TE_exit ?_
  refine TE_loopS (fun k : Nat => ⟨fr 36 [(0, v0_), (3, .int .i64 ((x0_.take k).flatten.length : Nat)), (10, .int .i64 (x0_.length : Nat)), (9, v0_), (11, .int .i64 (k : Nat))], [], σ⟩) (fun k => k ≤ x0_.length) (fun k => x0_.length - k) 0 (Nat.zero_le _) (Le_fr (by simp only [List.take_zero, List.flatten_nil]; exact ⟨rfl, rfl, rfl, rfl, rfl, trivial⟩)) ?_
  intro k hk
  try dsimp only at hk ⊢
  by_cases hlt : k < x0_.length
  · have hd : decide ((k : Int) < (x0_.length : Nat)) = true := decide_eq_true (by omega)
    have hg : lidx x0_ (k : Int) = some x0_[k] := by simp [lidx, hlt]
    have hsum : (x0_.take (k + 1)).flatten.length = (x0_.take k).flatten.length + x0_[k].length := by
      rw [List.take_succ_eq_append_getElem hlt, List.flatten_append]; simp
    have hle : (x0_.take (k + 1)).flatten.length ≤ x0_.flatten.length := flat_take_le _ _
    have hw : IntKind.i64.wrap (((x0_.take k).flatten.length : Nat) + (x0_[k].length : Nat)) = ((x0_.take (k + 1)).flatten.length : Nat) := (IntWalk.i64_in _ ⟨by omega, by omega⟩).trans (by omega)
    have hn : decide (IntKind.i64.wrap (((x0_.take k).flatten.length : Nat) + (x0_[k].length : Nat)) < 0) = false := decide_eq_false (by rw [hw]; omega)
    have hw2 : IntKind.i64.wrap ((k : Int) + 1) = ((k + 1 : Nat) : Int) := (IntWalk.i64_in _ ⟨by omega, by omega⟩).trans (by omega)
    have hM := MB_none σ
    repeat' first
      | refine TE_seq ?_
      | with_reducible refine TE_block ?_
      | with_reducible refine TE_seqY ?_
      | with_reducible refine TX_nil ?_
      | with_reducible refine thenQ_normal ?_
      | with_reducible refine thenQ_ret ?_
      | with_reducible refine blockQ_normal ?_
      | with_reducible refine blockQ_out ?_
      | with_reducible refine thenQ_exit ?_
      | with_reducible refine TX_move (by with_unfolding_all rfl) ?_
      | with_reducible refine TX_assign (by with_unfolding_all rfl) ?_
      | with_reducible refine TX_cmp (by with_unfolding_all rfl) (by with_unfolding_all rfl) (by with_unfolding_all rfl) ?_
      | with_reducible refine TX_ari (by with_unfolding_all rfl) (by with_unfolding_all rfl) (by with_unfolding_all rfl) ?_
      | with_reducible refine TE_cond_t (by with_unfolding_all rfl) (by first | assumption | with_unfolding_all rfl) ?_
      | with_reducible refine TE_cond_f (by with_unfolding_all rfl) (by first | assumption | with_unfolding_all rfl) ?_
      | with_reducible refine TE_ret ?_
      | with_reducible refine TE_skip ?_
      | with_reducible refine TE_exit ?_
    with_reducible refine TY_idx (E := eL e_match_Span) (by with_unfolding_all rfl) (by with_unfolding_all rfl) (by with_unfolding_all rfl) h0_ (by with_unfolding_all rfl) hg ?_
    intro u hu'
    have hu : RS e_match_Span u x0_[k] := hu'
    rw [RS.cells hu]
    with_reducible refine TX_load_c (by with_unfolding_all rfl) (by with_unfolding_all rfl) ?_
    repeat' first
      | with_reducible refine TY_len (E := e_match_Span) (by with_unfolding_all rfl) (by with_unfolding_all rfl) (by with_unfolding_all rfl) (by with_unfolding_all rfl) hu (by with_unfolding_all rfl) ?_
      | refine TE_seq ?_
      | with_reducible refine TE_block ?_
      | with_reducible refine TE_seqY ?_
      | with_reducible refine TX_nil ?_
      | with_reducible refine thenQ_normal ?_
      | with_reducible refine thenQ_ret ?_
      | with_reducible refine blockQ_normal ?_
      | with_reducible refine blockQ_out ?_
      | with_reducible refine thenQ_exit ?_
      | with_reducible refine TX_move (by with_unfolding_all rfl) ?_
      | with_reducible refine TX_assign (by with_unfolding_all rfl) ?_
      | with_reducible refine TX_cmp (by with_unfolding_all rfl) (by with_unfolding_all rfl) (by with_unfolding_all rfl) ?_
      | with_reducible refine TX_ari (by with_unfolding_all rfl) (by with_unfolding_all rfl) (by with_unfolding_all rfl) ?_
      | with_reducible refine TE_cond_t (by with_unfolding_all rfl) (by first | assumption | with_unfolding_all rfl) ?_
      | with_reducible refine TE_cond_f (by with_unfolding_all rfl) (by first | assumption | with_unfolding_all rfl) ?_
      | with_reducible refine TE_ret ?_
      | with_reducible refine TE_skip ?_
      | with_reducible refine TE_exit ?_
    exact loopQ_again (k + 1) (by omega) (by omega) (Le_fr ⟨rfl, by rw [← hw]; rfl, rfl, rfl, by rw [← hw2]; rfl, trivial⟩)
  · have hd : decide ((k : Int) < (x0_.length : Nat)) = false := decide_eq_false (by omega)
    have hke : k = x0_.length := by omega
    subst hke
    rw [List.take_length]
    repeat' first
      | refine loopQ_exit ?_
      | refine TE_seq ?_
      | with_reducible refine TE_block ?_
      | with_reducible refine TE_seqY ?_
      | with_reducible refine TX_nil ?_
      | with_reducible refine thenQ_normal ?_
      | with_reducible refine thenQ_ret ?_
      | with_reducible refine blockQ_normal ?_
      | with_reducible refine blockQ_out ?_
      | with_reducible refine thenQ_exit ?_
      | with_reducible refine TX_move (by with_unfolding_all rfl) ?_
      | with_reducible refine TX_assign (by with_unfolding_all rfl) ?_
      | with_reducible refine TX_cmp (by with_unfolding_all rfl) (by with_unfolding_all rfl) (by with_unfolding_all rfl) ?_
      | with_reducible refine TX_ari (by with_unfolding_all rfl) (by with_unfolding_all rfl) (by with_unfolding_all rfl) ?_
      | with_reducible refine TE_cond_t (by with_unfolding_all rfl) (by first | assumption | with_unfolding_all rfl) ?_
      | with_reducible refine TE_cond_f (by with_unfolding_all rfl) (by first | assumption | with_unfolding_all rfl) ?_
      | with_reducible refine TE_ret ?_
      | with_reducible refine TE_skip ?_
      | with_reducible refine TE_exit ?_
    obtain ⟨gv, gs, hgc, hgb⟩ := slices_Grow_match_Span_match_Span_ok (N := x0_.flatten.length) hlen' σ
    with_reducible refine TX_call (by with_unfolding_all rfl) en101 hgc (MB_none _) ?_
    repeat' first
      | with_reducible refine TY_len (E := eL e_match_Span) (by with_unfolding_all rfl) (by with_unfolding_all rfl) (by with_unfolding_all rfl) (by with_unfolding_all rfl) h0_ (by with_unfolding_all rfl) ?_
      | refine TE_seq ?_
      | with_reducible refine TE_block ?_
      | with_reducible refine TE_seqY ?_
      | with_reducible refine TX_nil ?_
      | with_reducible refine thenQ_normal ?_
      | with_reducible refine thenQ_ret ?_
      | with_reducible refine blockQ_normal ?_
      | with_reducible refine blockQ_out ?_
      | with_reducible refine thenQ_exit ?_
      | with_reducible refine TX_move (by with_unfolding_all rfl) ?_
      | with_reducible refine TX_assign (by with_unfolding_all rfl) ?_
      | with_reducible refine TX_cmp (by with_unfolding_all rfl) (by with_unfolding_all rfl) (by with_unfolding_all rfl) ?_
      | with_reducible refine TX_ari (by with_unfolding_all rfl) (by with_unfolding_all rfl) (by with_unfolding_all rfl) ?_
      | with_reducible refine TE_cond_t (by with_unfolding_all rfl) (by first | assumption | with_unfolding_all rfl) ?_
      | with_reducible refine TE_cond_f (by with_unfolding_all rfl) (by first | assumption | with_unfolding_all rfl) ?_
      | with_reducible refine TE_ret ?_
      | with_reducible refine TE_skip ?_
      | with_reducible refine TE_exit ?_
    refine TE_iterG (fun (k : Nat) z => k ≤ x0_.length ∧ ∃ u s, GB e_match_Span σ s x0_.flatten.length u (x0_.take k).flatten ∧ Le z ⟨fr 36 [(0, v0_), (6, u), (26, .int .i64 (x0_.length : Nat)), (25, v0_), (27, .int .i64 (k : Nat))], [], s⟩) (fun k => x0_.length - k) 0 ⟨Nat.zero_le _, gv, gs, by simpa using hgb, Le_fr ⟨rfl, rfl, rfl, rfl, rfl, trivial⟩⟩ ?_
    rintro k z ⟨hk, u, s, hgb, hz⟩
    refine TE_pre hz ?_
    by_cases hlt : k < x0_.length
    · have hd : decide ((k : Int) < (x0_.length : Nat)) = true := decide_eq_true (by omega)
      have hg : lidx x0_ (k : Int) = some x0_[k] := by simp [lidx, hlt]
      have hsum : (x0_.take (k + 1)).flatten = (x0_.take k).flatten ++ x0_[k] := by
        rw [List.take_succ_eq_append_getElem hlt, List.flatten_append]; simp
      have hle : (x0_.take (k + 1)).flatten.length ≤ x0_.flatten.length := flat_take_le _ _
      have hw2 : IntKind.i64.wrap ((k : Int) + 1) = ((k + 1 : Nat) : Int) := (IntWalk.i64_in _ ⟨by omega, by omega⟩).trans (by omega)
      repeat' first
        | refine TE_seq ?_
        | with_reducible refine TE_block ?_
        | with_reducible refine TE_seqY ?_
        | with_reducible refine TX_nil ?_
        | with_reducible refine thenQ_normal ?_
        | with_reducible refine thenQ_ret ?_
        | with_reducible refine blockQ_normal ?_
        | with_reducible refine blockQ_out ?_
        | with_reducible refine thenQ_exit ?_
        | with_reducible refine TX_move (by with_unfolding_all rfl) ?_
        | with_reducible refine TX_assign (by with_unfolding_all rfl) ?_
        | with_reducible refine TX_cmp (by with_unfolding_all rfl) (by with_unfolding_all rfl) (by with_unfolding_all rfl) ?_
        | with_reducible refine TX_ari (by with_unfolding_all rfl) (by with_unfolding_all rfl) (by with_unfolding_all rfl) ?_
        | with_reducible refine TE_cond_t (by with_unfolding_all rfl) (by first | assumption | with_unfolding_all rfl) ?_
        | with_reducible refine TE_cond_f (by with_unfolding_all rfl) (by first | assumption | with_unfolding_all rfl) ?_
        | with_reducible refine TE_ret ?_
        | with_reducible refine TE_skip ?_
        | with_reducible refine TE_exit ?_
      with_reducible refine TY_idx (E := eL e_match_Span) (by with_unfolding_all rfl) (by with_unfolding_all rfl) (by with_unfolding_all rfl) h0_ (by with_unfolding_all rfl) hg ?_
      intro v hv'
      have hv : RS e_match_Span v x0_[k] := hv'
      rw [RS.cells hv]
      with_reducible refine TX_load_c (by with_unfolding_all rfl) (by with_unfolding_all rfl) ?_
      obtain ⟨u', s', hap, hgb'⟩ := hgb.app appT25_25 hv (by rw [hsum, List.length_append] at hle; omega)
      rw [← hsum] at hgb'
      repeat' first
        | with_reducible refine TX_appendX (by with_unfolding_all rfl) (by with_unfolding_all rfl) (by with_unfolding_all rfl) (by with_unfolding_all rfl) (by with_unfolding_all rfl) hap (MB_none _) ?_
        | refine TE_seq ?_
        | with_reducible refine TE_block ?_
        | with_reducible refine TE_seqY ?_
        | with_reducible refine TX_nil ?_
        | with_reducible refine thenQ_normal ?_
        | with_reducible refine thenQ_ret ?_
        | with_reducible refine blockQ_normal ?_
        | with_reducible refine blockQ_out ?_
        | with_reducible refine thenQ_exit ?_
        | with_reducible refine TX_move (by with_unfolding_all rfl) ?_
        | with_reducible refine TX_assign (by with_unfolding_all rfl) ?_
        | with_reducible refine TX_cmp (by with_unfolding_all rfl) (by with_unfolding_all rfl) (by with_unfolding_all rfl) ?_
        | with_reducible refine TX_ari (by with_unfolding_all rfl) (by with_unfolding_all rfl) (by with_unfolding_all rfl) ?_
        | with_reducible refine TE_cond_t (by with_unfolding_all rfl) (by first | assumption | with_unfolding_all rfl) ?_
        | with_reducible refine TE_cond_f (by with_unfolding_all rfl) (by first | assumption | with_unfolding_all rfl) ?_
        | with_reducible refine TE_ret ?_
        | with_reducible refine TE_skip ?_
        | with_reducible refine TE_exit ?_
      refine loopG_again (k + 1) ?_ ?_
      · exact ⟨by omega, u', s', hgb', Le_fr ⟨rfl, rfl, rfl, rfl, by rw [← hw2]; rfl, trivial⟩⟩
      · omega
    · have hd : decide ((k : Int) < (x0_.length : Nat)) = false := decide_eq_false (by omega)
      have hke : k = x0_.length := by omega
      subst hke
      rw [List.take_length] at hgb
      repeat' first
        | refine loopG_exit ?_
        | refine TE_seq ?_
        | with_reducible refine TE_block ?_
        | with_reducible refine TE_seqY ?_
        | with_reducible refine TX_nil ?_
        | with_reducible refine thenQ_normal ?_
        | with_reducible refine thenQ_ret ?_
        | with_reducible refine blockQ_normal ?_
        | with_reducible refine blockQ_out ?_
        | with_reducible refine thenQ_exit ?_
        | with_reducible refine TX_move (by with_unfolding_all rfl) ?_
        | with_reducible refine TX_assign (by with_unfolding_all rfl) ?_
        | with_reducible refine TX_cmp (by with_unfolding_all rfl) (by with_unfolding_all rfl) (by with_unfolding_all rfl) ?_
        | with_reducible refine TX_ari (by with_unfolding_all rfl) (by with_unfolding_all rfl) (by with_unfolding_all rfl) ?_
        | with_reducible refine TE_cond_t (by with_unfolding_all rfl) (by first | assumption | with_unfolding_all rfl) ?_
        | with_reducible refine TE_cond_f (by with_unfolding_all rfl) (by first | assumption | with_unfolding_all rfl) ?_
        | with_reducible refine TE_ret ?_
        | with_reducible refine TE_skip ?_
        | with_reducible refine TE_exit ?_
      exact done_any (vs := [u]) (.inr rfl) rfl (resR_tmp (by with_unfolding_all rfl) resR_nil) hgb
theorem match_join_ok {x0_ : match_Match} {x1_ : match_Match} {y : match_Match} (hF : F.match_join x0_ x1_ = some y) {v0_ : AV} {v1_ : AV} {σ : Mem} (h0_ : e_match_Match.rel v0_ x0_) (h1_ : e_match_Match.rel v1_ x1_)  :
    CallE Try.prog 64 [v0_, v1_] σ (fun v σ' => e_match_Match.rel v y ∧ Ext σ σ') := by
  unfold F.match_join at hF
  obtain ⟨u1, u3, rfl, h2, h4⟩ := h0_
  obtain ⟨u5, u7, rfl, h6, h8⟩ := h1_
  refine CallE_of Try.func64 rfl Try.ntmps64 (by simp) ?_
  have hO0 := Own.start σ
  with_unfolding_all refine TE_seq ?_
  with_unfolding_all refine TE_seqY ?_
  have hM9 := MB_none σ
  with_unfolding_all refine TY_box hO0 hM9 rfl rfl ?_
  rintro id10 s11 (hO12 : Own σ [] s11 [.obj id10 [u1, u3]]) hM13
  with_unfolding_all refine TY_box hO12 hM13 rfl rfl ?_
  rintro id14 s15 (hO16 : Own σ [] s15 [.obj id14 [u5, u7], .obj id10 [u1, u3]]) hM17
  with_unfolding_all refine TY_alloc hO16 hM17 rfl rfl ?_
  rintro id18 s19 (hO20 : Own σ [] s19 [.obj id18 [.nils, .nils], .obj id14 [u5, u7], .obj id10 [u1, u3]]) hM21
  with_unfolding_all refine TX_nil ?_
  with_unfolding_all refine thenQ_normal ?_
  with_unfolding_all refine TE_seq ?_
  obtain ⟨x22, h23, hF⟩ := bind_s hF
  obtain ⟨x24, h25, hF⟩ := bind_s hF
  have hB26 : Bs [(id10, [u1, u3]), (id14, [u5, u7])] s19 := Bs.cons (hO20.obj 2 rfl) (Bs.cons (hO20.obj 1 rfl) (Bs.nil _))
  with_unfolding_all refine TE_drawY [(id10, [u1, u3]), (id14, [u5, u7])] (by with_unfolding_all rfl) (by kernel_rfl) hB26 ?_
  have hM27 := MB_some hB26
  with_unfolding_all refine TX_fieldAddr_p rfl rfl rfl ?_
  with_unfolding_all refine TX_load_p rfl (MC_some 0 rfl) rfl ?_
  with_unfolding_all refine TX_fieldAddr_p rfl rfl rfl ?_
  with_unfolding_all refine TX_load_p rfl (MC_some 1 rfl) rfl ?_
  have h28 : All2 (eL e_match_Span).rel ([u1, u5] : List AV) ([x0_.In, x1_.In] : (List (List match_Span))) := ⟨h2, ⟨h6, trivial⟩⟩
  with_unfolding_all refine TY_buildSlice rfl rfl rfl rfl rfl h28 rfl (by decide) (by with_unfolding_all exact Nat.le_of_ble_eq_true rfl) ?_
  have h29 : RS (eL e_match_Span) (.sl [u1, u5] .full) ([x0_.In, x1_.In] : (List (List match_Span))) := RS.of h28
  have hc30 : CallE Try.prog 96 [(.sl [u1, u5] .full)] s19 _ := slices_Concat_match_Span_match_Span_ok h23 h29
  with_unfolding_all refine TY_call hM27 rfl en96 hc30 ?_
  intro v31 s35 hv32 hX33 hM34
  have hO36 := hO20.ext_call hX33
  with_unfolding_all refine TX_fieldAddr_p rfl rfl rfl ?_
  with_unfolding_all refine TX_load_p rfl (MC_some 0 rfl) rfl ?_
  with_unfolding_all refine TX_fieldAddr_p rfl rfl rfl ?_
  with_unfolding_all refine TX_load_p rfl (MC_some 1 rfl) rfl ?_
  have h37 : All2 (eL e_match_Span).rel ([u3, u7] : List AV) ([x0_.Out, x1_.Out] : (List (List match_Span))) := ⟨h4, ⟨h8, trivial⟩⟩
  with_unfolding_all refine TY_buildSlice rfl rfl rfl rfl rfl h37 rfl (by decide) (by with_unfolding_all exact Nat.le_of_ble_eq_true rfl) ?_
  have h38 : RS (eL e_match_Span) (.sl [u3, u7] .full) ([x0_.Out, x1_.Out] : (List (List match_Span))) := RS.of h37
  have hc39 : CallE Try.prog 96 [(.sl [u3, u7] .full)] s35 _ := slices_Concat_match_Span_match_Span_ok h25 h38
  with_unfolding_all refine TY_call hM34 rfl en96 hc39 ?_
  intro v40 s44 hv41 hX42 hM43
  have hO45 := hO36.ext_call hX42
  with_unfolding_all refine TY_build [v31, v40] rfl rfl rfl (by with_unfolding_all exact Fill.cons rfl (RS.cells hv32) rfl (by with_unfolding_all exact Nat.le_of_ble_eq_true rfl) (Fill.cons rfl (RS.cells hv41) rfl (by with_unfolding_all exact Nat.le_of_ble_eq_true rfl) (Fill.nil _))) (by with_unfolding_all rfl) ?_
  with_unfolding_all refine TY_store (v := .agg [v31, v40]) (vc := [v31, v40]) hO45 hM43 (MNe.cons (hO45.ne 2 0 rfl rfl (by decide)) (MNe.cons (hO45.ne 1 0 rfl rfl (by decide)) (MNe.nil _))) rfl rfl rfl rfl (by with_unfolding_all exact Nat.le_of_ble_eq_true rfl) (ones_cons (RS.one1 hv32) (ones_cons (RS.one1 hv41) ones_nil)) rfl ?_
  rintro s46 (hO47 : Own σ [] s46 [.obj id18 [v31, v40], .obj id14 [u5, u7], .obj id10 [u1, u3]]) hM48
  with_unfolding_all refine TX_nil ?_
  with_unfolding_all refine thenQ_normal ?_
  with_unfolding_all refine TE_ret ?_
  obtain rfl := some_s hF
  exact done_any (vs := [.agg [v31, v40]]) (.inr rfl) rfl (resR_cell rfl (hO47.obj 0 rfl) rfl resR_nil) ⟨⟨v31, v40, rfl, hv32, hv41⟩, hO47.ext⟩
theorem match_And_ok {x0_ : (List match_Match)} {x1_ : (List match_Match)} {y : ((List match_Match) × Int)} (hF : F.match_And x0_ x1_ = some y) {v0_ : AV} {v1_ : AV} {σ : Mem} (h0_ : (RS e_match_Match) v0_ x0_) (h1_ : (RS e_match_Match) v1_ x1_)  :
    CallE Try.prog 19 [v0_, v1_] σ (fun v σ' => (R2 (RS e_match_Match) (eI .i64).rel) v y ∧ Ext σ σ') := by
  unfold F.match_And at hF
  refine CallE_of Try.func19 rfl Try.ntmps19 (by simp) ?_
  have hO0 := Own.start σ
  with_unfolding_all refine TE_seq ?_
  with_unfolding_all refine TE_seqY ?_
  have hM1 := MB_none σ
  with_unfolding_all refine TX_assign rfl ?_
  with_unfolding_all refine TX_assign rfl ?_
  with_unfolding_all refine TX_nil ?_
  with_unfolding_all refine thenQ_normal ?_
  with_unfolding_all refine TE_seq ?_
  with_unfolding_all refine TE_seq ?_
  obtain ⟨r4, h5, hF⟩ := bind_s hF
  refine TE_cutQ (fun z => ∃ (s7 : Mem), Own σ [] s7 [] ∧ Le z ⟨fr 43 [(0, v0_), (1, v1_), (21, .bool (r4))], [], s7⟩) ?_ ?_
  · skip
    with_unfolding_all refine TE_seqY ?_
    have hM10 := MB_none σ
    with_unfolding_all refine TX_move rfl ?_
    with_unfolding_all refine TY_len rfl rfl rfl rfl h0_ rfl ?_
    with_unfolding_all refine TX_cmp rfl rfl rfl ?_
    with_unfolding_all refine TX_move rfl ?_
    with_unfolding_all refine TX_guard_t rfl rfl (fun hc11 => ?_) (fun hc11 => ?_)
    · skip
      replace h5 := ite_t hc11 h5
      obtain ⟨x2, h3, h5⟩ := bind_s h5
      with_unfolding_all refine TX_move rfl ?_
      with_unfolding_all refine TX_guard_yes rfl rfl hc11 ?_
      with_unfolding_all refine TY_len rfl rfl rfl rfl h1_ rfl ?_
      with_unfolding_all refine TX_guard_yes rfl rfl hc11 ?_
      with_unfolding_all refine TX_move rfl ?_
      with_unfolding_all refine TX_guard_yes rfl rfl hc11 ?_
      with_unfolding_all refine TY_len rfl rfl rfl rfl h0_ rfl ?_
      with_unfolding_all refine TX_guard_yes rfl rfl hc11 ?_
      with_unfolding_all refine TX_div rfl rfl (nz_s h3) rfl ?_
      with_unfolding_all refine TX_guard_yes rfl rfl hc11 ?_
      with_unfolding_all refine TX_cmp rfl rfl rfl ?_
      with_unfolding_all refine TX_pick_t rfl hc11 rfl ?_
      obtain rfl := some_s h5
      with_unfolding_all refine TX_nil ?_
      exact joinQ_normal ⟨σ, (hO0.sub 0 rfl), (Le_fr ⟨rfl, ⟨rfl, ⟨rfl, trivial⟩⟩⟩)⟩
    · skip
      replace h5 := ite_f hc11 h5
      obtain rfl := some_s h5
      with_unfolding_all refine TX_guard_no_t rfl rfl hc11 ?_
      with_unfolding_all refine TX_guard_no_t rfl rfl hc11 ?_
      with_unfolding_all refine TX_guard_no_t rfl rfl hc11 ?_
      with_unfolding_all refine TX_guard_no_t rfl rfl hc11 ?_
      with_unfolding_all refine TX_guard_no_t rfl rfl hc11 ?_
      with_unfolding_all refine TX_pick_f rfl hc11 rfl ?_
      with_unfolding_all refine TX_nil ?_
      exact joinQ_normal ⟨σ, (hO0.sub 0 rfl), (Le_fr ⟨rfl, ⟨rfl, ⟨rfl, trivial⟩⟩⟩)⟩
  · skip
    rintro zj6 ⟨s7, hO8, hz9⟩
    with_unfolding_all refine thenQ_normal ?_
    refine TE_pre hz9 ?_
    with_unfolding_all refine TE_cond rfl (fun hc12 => ?_) (fun hc12 => ?_)
    · skip
      replace hF := ite_t hc12 hF
      with_unfolding_all refine TE_seq ?_
      with_unfolding_all refine TE_seqY ?_
      have hM13 := MB_none s7
      with_unfolding_all refine TX_assign rfl ?_
      with_unfolding_all refine TX_assign rfl ?_
      with_unfolding_all refine TX_nil ?_
      with_unfolding_all refine thenQ_normal ?_
      with_unfolding_all refine TE_ret ?_
      with_unfolding_all refine thenQ_ret ?_
      obtain rfl := some_s hF
      exact done_any (vs := [.nils, .int .i64 (23)]) (.inr rfl) rfl (resR_tmp rfl (resR_tmp rfl resR_nil)) ⟨⟨_, _, rfl, (RS.nil e_match_Match), rfl⟩, hO8.ext⟩
    · skip
      replace hF := ite_f hc12 hF
      with_unfolding_all refine TE_skip ?_
      with_unfolding_all refine thenQ_normal ?_
      with_unfolding_all refine TE_seq ?_
      with_unfolding_all refine TE_seqY ?_
      have hM14 := MB_none s7
      with_unfolding_all refine TX_assign rfl ?_
      with_unfolding_all refine TX_nil ?_
      with_unfolding_all refine thenQ_normal ?_
      with_unfolding_all refine TE_seq ?_
      with_unfolding_all refine TE_seq ?_
      with_unfolding_all refine TE_seqY ?_
      have hM15 := MB_none s7
      with_unfolding_all refine TX_move rfl ?_
      with_unfolding_all refine TY_len rfl rfl rfl rfl h0_ rfl ?_
      with_unfolding_all refine TX_move rfl ?_
      with_unfolding_all refine TX_nil ?_
      with_unfolding_all refine thenQ_normal ?_
      with_unfolding_all refine TE_block ?_
      obtain ⟨p22, h28, hF⟩ := bind_s hF
      refine TE_iter (f := F.match_And_s1 x0_ x1_) (s0 := ([], 0)) (a := p22) (fun (q16 : ((List match_Match) × Int)) z => ∃ (u18 : AV) (s20 : Mem), RS e_match_Match u18 q16.1 ∧ Own σ [] s20 [.buf u18] ∧ Le z ⟨fr 43 [(1, v1_), (6, u18), (22, v0_), (23, .int .i64 ((x0_.length : Int))), (24, .int .i64 (q16.2))], [], s20⟩) (fun (p22 : (List match_Match)) e z => (e = .exit 0 ∧ ∃ (u23 : AV) (s25 : Mem), RS e_match_Match u23 p22 ∧ Own σ [] s25 [.buf u23] ∧ Le z ⟨fr 43 [(6, u23)], [], s25⟩)) h28 ?_ ?_ ?_
      · skip
        have hO29 : Own σ [] s7 [.buf .nils] := hO8.buf0
        exact ⟨.nils, s7, (RS.nil e_match_Match), (hO29.sub 1 rfl), (Le_fr ⟨rfl, ⟨rfl, ⟨rfl, ⟨rfl, ⟨rfl, trivial⟩⟩⟩⟩⟩)⟩
      · skip
        clear hF
        rintro q16 zq16 r17 ⟨u18, s20, h19, hO21, hz30⟩ hF
        unfold F.match_And_s1 at hF
        refine TE_pre hz30 ?_
        with_unfolding_all refine TE_seq ?_
        with_unfolding_all refine TE_seqY ?_
        have hM31 := MB_none s20
        with_unfolding_all refine TX_cmp rfl rfl rfl ?_
        with_unfolding_all refine TX_nil ?_
        with_unfolding_all refine thenQ_normal ?_
        with_unfolding_all refine TE_seq ?_
        with_unfolding_all refine TE_cond rfl (fun hc32 => ?_) (fun hc32 => ?_)
        · skip
          replace hF := ite_t hc32 hF
          with_unfolding_all refine TE_skip ?_
          with_unfolding_all refine thenQ_normal ?_
          with_unfolding_all refine TE_seq ?_
          with_unfolding_all refine TE_block ?_
          with_unfolding_all refine TE_seq ?_
          obtain ⟨x33, h34, hF⟩ := bind_s hF
          with_unfolding_all refine TE_seqY ?_
          have hM39 := MB_none s20
          with_unfolding_all refine TY_idx (E := e_match_Match) rfl rfl rfl h0_ rfl h34 ?_
          intro u40 h41
          obtain ⟨u42, u44, rfl, h43, h45⟩ := h41
          with_unfolding_all refine TX_load_c rfl rfl ?_
          with_unfolding_all refine TY_alloc hO21 hM39 rfl rfl ?_
          rintro id46 s47 (hO48 : Own σ [] s47 [.obj id46 [.nils, .nils], .buf u18]) hM49
          with_unfolding_all refine TY_store (v := .agg [u42, u44]) (vc := [u42, u44]) hO48 hM49 (MNe.none _) rfl rfl rfl rfl (by with_unfolding_all exact Nat.le_of_ble_eq_true rfl) (ones_cons (RS.one1 h43) (ones_cons (RS.one1 h45) ones_nil)) rfl ?_
          rintro s50 (hO51 : Own σ [] s50 [.obj id46 [u42, u44], .buf u18]) hM52
          with_unfolding_all refine TX_nil ?_
          with_unfolding_all refine thenQ_normal ?_
          with_unfolding_all refine TE_seq ?_
          with_unfolding_all refine TE_seqY ?_
          have hM53 := MB_none s50
          with_unfolding_all refine TX_move rfl ?_
          with_unfolding_all refine TY_len rfl rfl rfl rfl h1_ rfl ?_
          with_unfolding_all refine TX_move rfl ?_
          with_unfolding_all refine TX_nil ?_
          with_unfolding_all refine thenQ_normal ?_
          with_unfolding_all refine TE_block ?_
          obtain ⟨p60, h66, hF⟩ := bind_s hF
          refine TE_iter (f := F.match_And_s2 x1_ x33) (s0 := (q16.1, 0)) (a := p60) (fun (q54 : ((List match_Match) × Int)) z => ∃ (u56 : AV) (s58 : Mem), RS e_match_Match u56 q54.1 ∧ Own σ [] s58 [.buf u56, .obj id46 [u42, u44]] ∧ Le z ⟨fr 43 [(1, v1_), (6, u56), (8, .ptr id46 0), (22, v0_), (23, .int .i64 ((x0_.length : Int))), (24, .int .i64 (q16.2)), (28, v1_), (29, .int .i64 ((x1_.length : Int))), (30, .int .i64 (q54.2))], [], s58⟩) (fun (p60 : (List match_Match)) e z => (e = .exit 2 ∧ ∃ (u61 : AV) (s63 : Mem), RS e_match_Match u61 p60 ∧ Own σ [] s63 [.buf u61, .obj id46 [u42, u44]] ∧ Le z ⟨fr 43 [(1, v1_), (6, u61), (22, v0_), (23, .int .i64 ((x0_.length : Int))), (24, .int .i64 (q16.2))], [], s63⟩)) h66 ?_ ?_ ?_
          · skip
            have hO67 : Own σ [] s50 [.buf u18, .obj id46 [u42, u44]] := hO51.front 1 rfl rfl
            exact ⟨u18, s50, h19, (hO67.sub 2 rfl), (Le_fr ⟨rfl, ⟨rfl, ⟨rfl, ⟨rfl, ⟨rfl, ⟨rfl, ⟨rfl, ⟨rfl, ⟨rfl, trivial⟩⟩⟩⟩⟩⟩⟩⟩⟩)⟩
          · skip
            clear hF
            rintro q54 zq54 r55 ⟨u56, s58, h57, hO59, hz68⟩ hF
            unfold F.match_And_s2 at hF
            refine TE_pre hz68 ?_
            with_unfolding_all refine TE_seq ?_
            with_unfolding_all refine TE_seqY ?_
            have hM69 := MB_none s58
            with_unfolding_all refine TX_cmp rfl rfl rfl ?_
            with_unfolding_all refine TX_nil ?_
            with_unfolding_all refine thenQ_normal ?_
            with_unfolding_all refine TE_seq ?_
            with_unfolding_all refine TE_cond rfl (fun hc70 => ?_) (fun hc70 => ?_)
            · skip
              replace hF := ite_t hc70 hF
              with_unfolding_all refine TE_skip ?_
              with_unfolding_all refine thenQ_normal ?_
              with_unfolding_all refine TE_seq ?_
              with_unfolding_all refine TE_block ?_
              with_unfolding_all refine TE_seq ?_
              obtain ⟨x71, h72, hF⟩ := bind_s hF
              with_unfolding_all refine TE_seqY ?_
              have hM77 := MB_none s58
              with_unfolding_all refine TY_idx (E := e_match_Match) rfl rfl rfl h1_ rfl h72 ?_
              intro u78 h79
              obtain ⟨u80, u82, rfl, h81, h83⟩ := h79
              with_unfolding_all refine TX_load_c rfl rfl ?_
              with_unfolding_all refine TY_alloc hO59 hM77 rfl rfl ?_
              rintro id84 s85 (hO86 : Own σ [] s85 [.obj id84 [.nils, .nils], .buf u56, .obj id46 [u42, u44]]) hM87
              with_unfolding_all refine TY_store (v := .agg [u80, u82]) (vc := [u80, u82]) hO86 hM87 (MNe.none _) rfl rfl rfl rfl (by with_unfolding_all exact Nat.le_of_ble_eq_true rfl) (ones_cons (RS.one1 h81) (ones_cons (RS.one1 h83) ones_nil)) rfl ?_
              rintro s88 (hO89 : Own σ [] s88 [.obj id84 [u80, u82], .buf u56, .obj id46 [u42, u44]]) hM90
              with_unfolding_all refine TX_nil ?_
              with_unfolding_all refine thenQ_normal ?_
              obtain ⟨x91, h92, hF⟩ := bind_s hF
              obtain ⟨x93, h94, hF⟩ := bind_s hF
              with_unfolding_all refine TE_seqY ?_
              have hM95 := MB_none s88
              with_unfolding_all refine TX_move rfl ?_
              with_unfolding_all refine TX_load_p rfl (MC_none (hO89.obj 2 rfl)) rfl ?_
              with_unfolding_all refine TX_load_p rfl (MC_none (hO89.obj 0 rfl)) rfl ?_
              have hc96 : CallE Try.prog 64 [.agg [u42, u44], .agg [u80, u82]] s88 _ := match_join_ok h92 ⟨u42, u44, rfl, h43, h45⟩ ⟨u80, u82, rfl, h81, h83⟩
              with_unfolding_all refine TY_call hM95 rfl en64 hc96 ?_
              intro v97 s101 hv98 hX99 hM100
              have hO102 := hO89.ext_call hX99
              obtain ⟨u103, u105, rfl, h104, h106⟩ := hv98
              have h107 : All2 e_match_Match.rel ([.agg [u103, u105]] : List AV) ([x91] : (List match_Match)) := ⟨⟨u103, u105, rfl, h104, h106⟩, trivial⟩
              with_unfolding_all refine TY_buildSlice rfl rfl rfl rfl rfl h107 rfl (by decide) (by with_unfolding_all exact Nat.le_of_ble_eq_true rfl) ?_
              have h108 : RS e_match_Match (.sl [.agg [u103, u105]] .full) ([x91] : (List match_Match)) := RS.of h107
              have hO109 : Own σ [] s101 [.buf u56, .obj id84 [u80, u82], .obj id46 [u42, u44]] := hO102.front 1 rfl rfl
              with_unfolding_all refine TY_append appT22_22 hO109 hM100 rfl rfl rfl rfl h57 rfl h108 h94 ?_
              rintro u110 s112 (h111 : RS e_match_Match u110 x93) (hO113 : Own σ [] s112 [.buf u110, .obj id84 [u80, u82], .obj id46 [u42, u44]]) hM114
              with_unfolding_all refine TX_assign rfl ?_
              with_unfolding_all refine TX_nil ?_
              with_unfolding_all refine blockQ_normal ?_
              with_unfolding_all refine thenQ_normal ?_
              with_unfolding_all refine TE_seqY ?_
              have hM115 := MB_none s112
              with_unfolding_all refine TX_ari rfl rfl rfl ?_
              with_unfolding_all refine TX_move rfl ?_
              with_unfolding_all refine TX_nil ?_
              obtain rfl := some_s hF
              have hO116 : Own σ [] s112 [.obj id46 [u42, u44], .buf u110, .obj id84 [u80, u82]] := hO113.front 2 rfl rfl
              have hO117 : Own σ [] s112 [.buf u110, .obj id46 [u42, u44], .obj id84 [u80, u82]] := hO116.front 1 rfl rfl
              exact iterQ_again ⟨u110, s112, h111, (hO117.sub 2 rfl), (Le_fr ⟨rfl, ⟨rfl, ⟨rfl, ⟨rfl, ⟨rfl, ⟨rfl, ⟨rfl, ⟨rfl, ⟨rfl, trivial⟩⟩⟩⟩⟩⟩⟩⟩⟩)⟩
            · skip
              replace hF := ite_f hc70 hF
              with_unfolding_all refine TE_exit ?_
              with_unfolding_all refine thenQ_exit ?_
              obtain rfl := some_s hF
              have hO118 : Own σ [] s58 [.obj id46 [u42, u44], .buf u56] := hO59.front 1 rfl rfl
              have hO119 : Own σ [] s58 [.buf u56, .obj id46 [u42, u44]] := hO118.front 1 rfl rfl
              exact iterQ_exit (⟨rfl, u56, s58, h57, (hO119.sub 2 rfl), (Le_fr ⟨rfl, ⟨rfl, ⟨rfl, ⟨rfl, ⟨rfl, trivial⟩⟩⟩⟩⟩)⟩)
          · skip
            rintro eq54 zq54 (⟨rfl, u61, s63, h62, hO64, hz120⟩)
            with_unfolding_all refine blockQ_out ?_
            with_unfolding_all refine blockQ_normal ?_
            with_unfolding_all refine thenQ_normal ?_
            refine TE_pre hz120 ?_
            with_unfolding_all refine TE_seqY ?_
            have hM121 := MB_none s63
            with_unfolding_all refine TX_ari rfl rfl rfl ?_
            with_unfolding_all refine TX_move rfl ?_
            with_unfolding_all refine TX_nil ?_
            obtain rfl := some_s hF
            exact iterQ_again ⟨u61, s63, h62, (hO64.sub 1 rfl), (Le_fr ⟨rfl, ⟨rfl, ⟨rfl, ⟨rfl, ⟨rfl, trivial⟩⟩⟩⟩⟩)⟩
        · skip
          replace hF := ite_f hc32 hF
          with_unfolding_all refine TE_exit ?_
          with_unfolding_all refine thenQ_exit ?_
          obtain rfl := some_s hF
          exact iterQ_exit (⟨rfl, u18, s20, h19, (hO21.sub 1 rfl), (Le_fr ⟨rfl, trivial⟩)⟩)
      · skip
        rintro eq16 zq16 (⟨rfl, u23, s25, h24, hO26, hz122⟩)
        with_unfolding_all refine blockQ_out ?_
        with_unfolding_all refine thenQ_normal ?_
        refine TE_pre hz122 ?_
        with_unfolding_all refine TE_seq ?_
        with_unfolding_all refine TE_seqY ?_
        have hM123 := MB_none s25
        with_unfolding_all refine TX_move rfl ?_
        with_unfolding_all refine TX_assign rfl ?_
        with_unfolding_all refine TX_assign rfl ?_
        with_unfolding_all refine TX_nil ?_
        with_unfolding_all refine thenQ_normal ?_
        with_unfolding_all refine TE_ret ?_
        obtain rfl := some_s hF
        exact done_any (vs := [u23, .int .i64 (0)]) (.inr rfl) rfl (resR_tmp rfl (resR_tmp rfl resR_nil)) ⟨⟨_, _, rfl, h24, rfl⟩, hO26.ext⟩
end Go.Proofs.Ytihbdelgoapeoaa.K
