/- Walks. Printed. -/
import Derived.Test.YtihbdelgoapeoaaGW8
namespace Go.Proofs.Ytihbdelgoapeoaa.K
open Go Go.RowKit F
set_option maxRecDepth 100000
set_option maxHeartbeats 4000000
set_option linter.unusedVariables false
set_option linter.unusedSimpArgs false
theorem law12_MatchOrders_1_ok {x0_ : match_Span} {x1_ : match_Span} {y : Bool} (hF : F.law12_MatchOrders_1 x0_ x1_ = some y) {v0_ : AV} {v1_ : AV} {σ : Mem} (h0_ : e_match_Span.rel v0_ x0_) (h1_ : e_match_Span.rel v1_ x1_)  :
    CallE Try.prog 27 [v0_, v1_] σ (fun v σ' => eB.rel v y ∧ Ext σ σ') := by
  unfold F.law12_MatchOrders_1 at hF
  obtain rfl := h0_
  obtain rfl := h1_
  refine CallE_of Try.func27 rfl Try.ntmps27 (by simp) ?_
  have hO0 := Own.start σ
  with_unfolding_all refine TE_seq ?_
  with_unfolding_all refine TE_seqY ?_
  have hM1 := MB_none σ
  with_unfolding_all refine TY_box hO0 hM1 rfl rfl ?_
  rintro id2 s3 (hO4 : Own σ [] s3 [.obj id2 [.int .i64 (x0_.From), .int .i64 (x0_.To), .int .i64 (x0_.Part), .int .i64 (x0_.Weight)]]) hM5
  with_unfolding_all refine TY_box hO4 hM5 rfl rfl ?_
  rintro id6 s7 (hO8 : Own σ [] s7 [.obj id6 [.int .i64 (x1_.From), .int .i64 (x1_.To), .int .i64 (x1_.Part), .int .i64 (x1_.Weight)], .obj id2 [.int .i64 (x0_.From), .int .i64 (x0_.To), .int .i64 (x0_.Part), .int .i64 (x0_.Weight)]]) hM9
  with_unfolding_all refine TX_assign rfl ?_
  with_unfolding_all refine TX_nil ?_
  with_unfolding_all refine thenQ_normal ?_
  with_unfolding_all refine TE_seq ?_
  with_unfolding_all refine TE_seq ?_
  with_unfolding_all refine TE_seqY ?_
  have hM10 := MB_none s7
  with_unfolding_all refine TX_fieldAddr_p rfl rfl rfl ?_
  with_unfolding_all refine TX_load_p rfl (MC_none (hO8.obj 1 rfl)) rfl ?_
  with_unfolding_all refine TX_fieldAddr_p rfl rfl rfl ?_
  with_unfolding_all refine TX_load_p rfl (MC_none (hO8.obj 0 rfl)) rfl ?_
  with_unfolding_all refine TX_cmp rfl rfl rfl ?_
  with_unfolding_all refine TX_nil ?_
  with_unfolding_all refine thenQ_normal ?_
  obtain ⟨j11, h15, hF⟩ := bind_s hF
  refine TE_cutQ (fun z => ∃ (s12 : Mem), Own σ [] s12 [.obj id6 [.int .i64 (j11.1.From), .int .i64 (j11.1.To), .int .i64 (j11.1.Part), .int .i64 (j11.1.Weight)], .obj id2 [.int .i64 (j11.2.From), .int .i64 (j11.2.To), .int .i64 (j11.2.Part), .int .i64 (j11.2.Weight)]] ∧ Le z ⟨fr 24 [(2, .ptr id2 0), (3, .ptr id6 0)], [], s12⟩) ?_ ?_
  · skip
    replace hF := h15
    with_unfolding_all refine TE_cond rfl (fun hc16 => ?_) (fun hc16 => ?_)
    · skip
      replace hF := ite_t hc16 hF
      with_unfolding_all refine TE_seqY ?_
      have hM17 := MB_none s7
      with_unfolding_all refine TX_load_p rfl (MC_none (hO8.obj 0 rfl)) rfl ?_
      with_unfolding_all refine TX_load_p rfl (MC_none (hO8.obj 1 rfl)) rfl ?_
      have hO18 : Own σ [] s7 [.obj id2 [.int .i64 (x0_.From), .int .i64 (x0_.To), .int .i64 (x0_.Part), .int .i64 (x0_.Weight)], .obj id6 [.int .i64 (x1_.From), .int .i64 (x1_.To), .int .i64 (x1_.Part), .int .i64 (x1_.Weight)]] := hO8.front 1 rfl rfl
      with_unfolding_all refine TY_store (v := .agg [.int .i64 (x1_.From), .int .i64 (x1_.To), .int .i64 (x1_.Part), .int .i64 (x1_.Weight)]) (vc := [.int .i64 (x1_.From), .int .i64 (x1_.To), .int .i64 (x1_.Part), .int .i64 (x1_.Weight)]) hO18 hM17 (MNe.none _) rfl rfl rfl rfl (by with_unfolding_all exact Nat.le_of_ble_eq_true rfl) (ones_cons rfl (ones_cons rfl (ones_cons rfl (ones_cons rfl ones_nil)))) rfl ?_
      rintro s19 (hO20 : Own σ [] s19 [.obj id2 [.int .i64 (x1_.From), .int .i64 (x1_.To), .int .i64 (x1_.Part), .int .i64 (x1_.Weight)], .obj id6 [.int .i64 (x1_.From), .int .i64 (x1_.To), .int .i64 (x1_.Part), .int .i64 (x1_.Weight)]]) hM21
      have hO22 : Own σ [] s19 [.obj id6 [.int .i64 (x1_.From), .int .i64 (x1_.To), .int .i64 (x1_.Part), .int .i64 (x1_.Weight)], .obj id2 [.int .i64 (x1_.From), .int .i64 (x1_.To), .int .i64 (x1_.Part), .int .i64 (x1_.Weight)]] := hO20.front 1 rfl rfl
      with_unfolding_all refine TY_store (v := .agg [.int .i64 (x0_.From), .int .i64 (x0_.To), .int .i64 (x0_.Part), .int .i64 (x0_.Weight)]) (vc := [.int .i64 (x0_.From), .int .i64 (x0_.To), .int .i64 (x0_.Part), .int .i64 (x0_.Weight)]) hO22 hM21 (MNe.none _) rfl rfl rfl rfl (by with_unfolding_all exact Nat.le_of_ble_eq_true rfl) (ones_cons rfl (ones_cons rfl (ones_cons rfl (ones_cons rfl ones_nil)))) rfl ?_
      rintro s23 (hO24 : Own σ [] s23 [.obj id6 [.int .i64 (x0_.From), .int .i64 (x0_.To), .int .i64 (x0_.Part), .int .i64 (x0_.Weight)], .obj id2 [.int .i64 (x1_.From), .int .i64 (x1_.To), .int .i64 (x1_.Part), .int .i64 (x1_.Weight)]]) hM25
      with_unfolding_all refine TX_nil ?_
      obtain rfl := some_s hF
      have hO26 : Own σ [] s23 [.obj id2 [.int .i64 (x1_.From), .int .i64 (x1_.To), .int .i64 (x1_.Part), .int .i64 (x1_.Weight)], .obj id6 [.int .i64 (x0_.From), .int .i64 (x0_.To), .int .i64 (x0_.Part), .int .i64 (x0_.Weight)]] := hO24.front 1 rfl rfl
      have hO27 : Own σ [] s23 [.obj id6 [.int .i64 (x0_.From), .int .i64 (x0_.To), .int .i64 (x0_.Part), .int .i64 (x0_.Weight)], .obj id2 [.int .i64 (x1_.From), .int .i64 (x1_.To), .int .i64 (x1_.Part), .int .i64 (x1_.Weight)]] := hO26.front 1 rfl rfl
      exact joinQ_normal ⟨s23, (hO27.sub 2 rfl), (Le_fr ⟨rfl, ⟨rfl, trivial⟩⟩)⟩
    · skip
      replace hF := ite_f hc16 hF
      with_unfolding_all refine TE_skip ?_
      obtain rfl := some_s hF
      have hO28 : Own σ [] s7 [.obj id2 [.int .i64 (x0_.From), .int .i64 (x0_.To), .int .i64 (x0_.Part), .int .i64 (x0_.Weight)], .obj id6 [.int .i64 (x1_.From), .int .i64 (x1_.To), .int .i64 (x1_.Part), .int .i64 (x1_.Weight)]] := hO8.front 1 rfl rfl
      have hO29 : Own σ [] s7 [.obj id6 [.int .i64 (x1_.From), .int .i64 (x1_.To), .int .i64 (x1_.Part), .int .i64 (x1_.Weight)], .obj id2 [.int .i64 (x0_.From), .int .i64 (x0_.To), .int .i64 (x0_.Part), .int .i64 (x0_.Weight)]] := hO28.front 1 rfl rfl
      exact joinQ_normal ⟨s7, (hO29.sub 2 rfl), (Le_fr ⟨rfl, ⟨rfl, trivial⟩⟩)⟩
  · skip
    rintro zj11 ⟨s12, hO13, hz14⟩
    with_unfolding_all refine thenQ_normal ?_
    refine TE_pre hz14 ?_
    with_unfolding_all refine TE_seq ?_
    obtain ⟨r30, h31, hF⟩ := bind_s hF
    with_unfolding_all refine TE_seqY ?_
    have hM32 := MB_none s12
    with_unfolding_all refine TX_fieldAddr_p rfl rfl rfl ?_
    with_unfolding_all refine TX_load_p rfl (MC_none (hO13.obj 1 rfl)) rfl ?_
    with_unfolding_all refine TX_fieldAddr_p rfl rfl rfl ?_
    with_unfolding_all refine TX_load_p rfl (MC_none (hO13.obj 0 rfl)) rfl ?_
    with_unfolding_all refine TX_cmp rfl rfl rfl ?_
    with_unfolding_all refine TX_move rfl ?_
    with_unfolding_all refine TX_guard_f rfl rfl (fun hc33 => ?_) (fun hc33 => ?_)
    · skip
      replace h31 := or_t hc33 h31
      obtain rfl := some_s h31
      with_unfolding_all refine TX_guard_no_f rfl rfl hc33 ?_
      with_unfolding_all refine TX_guard_no_f rfl rfl hc33 ?_
      with_unfolding_all refine TX_guard_no_f rfl rfl hc33 ?_
      with_unfolding_all refine TX_guard_no_f rfl rfl hc33 ?_
      with_unfolding_all refine TX_pick_t rfl hc33 rfl ?_
      with_unfolding_all refine TX_assign rfl ?_
      with_unfolding_all refine TX_nil ?_
      with_unfolding_all refine thenQ_normal ?_
      with_unfolding_all refine TE_ret ?_
      obtain rfl := some_s hF
      exact done_any (vs := [.bool (true)]) (.inr rfl) rfl (resR_tmp rfl resR_nil) ⟨rfl, hO13.ext⟩
    · skip
      replace h31 := or_f hc33 h31
      with_unfolding_all refine TX_fieldAddr_p rfl rfl rfl ?_
      with_unfolding_all refine TX_guard_yes rfl rfl hc33 ?_
      with_unfolding_all refine TX_load_p rfl (MC_none (hO13.obj 1 rfl)) rfl ?_
      with_unfolding_all refine TX_guard_yes rfl rfl hc33 ?_
      with_unfolding_all refine TX_fieldAddr_p rfl rfl rfl ?_
      with_unfolding_all refine TX_guard_yes rfl rfl hc33 ?_
      with_unfolding_all refine TX_load_p rfl (MC_none (hO13.obj 0 rfl)) rfl ?_
      with_unfolding_all refine TX_guard_yes rfl rfl hc33 ?_
      with_unfolding_all refine TX_cmp rfl rfl rfl ?_
      with_unfolding_all refine TX_pick_f rfl hc33 rfl ?_
      obtain rfl := some_s h31
      with_unfolding_all refine TX_assign rfl ?_
      with_unfolding_all refine TX_nil ?_
      with_unfolding_all refine thenQ_normal ?_
      with_unfolding_all refine TE_ret ?_
      obtain rfl := some_s hF
      exact done_any (vs := [.bool ((decide (j11.2.From ≤ j11.1.From)))]) (.inr rfl) rfl (resR_tmp rfl resR_nil) ⟨rfl, hO13.ext⟩
theorem law12_MatchOrders_2_ok {x0_ : (List match_Span)} {x1_ : match_Span} {c0_ : (match_Span → match_Span → Option Bool)} {y : Bool} (hF : F.law12_MatchOrders_2 x0_ x1_ c0_ = some y) {v0_ : AV} {v1_ : AV} {σ : Mem} (h0_ : (RS e_match_Span) v0_ x0_) (h1_ : e_match_Span.rel v1_ x1_) {d0_ : Nat} {w0_ : AV} (k0_ : FnOK2 Try.prog w0_ σ e_match_Span.rel e_match_Span.rel eB.rel c0_) (m0_ : σ[d0_]? = some (.cells w0_.cells)) :
    CallE Try.prog 28 [v0_, v1_, .ptr d0_ 0] σ (fun v σ' => eB.rel v y ∧ Ext σ σ') := by
  unfold F.law12_MatchOrders_2 at hF
  obtain rfl := h1_
  have h1 := k0_
  obtain ⟨g2, fs3, cs4, rfl, hen5, hcall6⟩ := k0_
  refine CallE_of Try.func28 rfl Try.ntmps28 (by simp) ?_
  have hO0 := Own.start σ
  with_unfolding_all refine TE_seq ?_
  with_unfolding_all refine TE_seqY ?_
  have hM7 := MB_none σ
  with_unfolding_all refine TY_box hO0 hM7 rfl rfl ?_
  rintro id8 s9 (hO10 : Own σ [] s9 [.obj id8 [.int .i64 (x1_.From), .int .i64 (x1_.To), .int .i64 (x1_.Part), .int .i64 (x1_.Weight)]]) hM11
  with_unfolding_all refine TX_assign rfl ?_
  with_unfolding_all refine TX_nil ?_
  with_unfolding_all refine thenQ_normal ?_
  with_unfolding_all refine TE_seq ?_
  with_unfolding_all refine TE_seq ?_
  with_unfolding_all refine TE_seqY ?_
  have hM12 := MB_none s9
  with_unfolding_all refine TX_move rfl ?_
  with_unfolding_all refine TY_len rfl rfl rfl rfl h0_ rfl ?_
  with_unfolding_all refine TX_move rfl ?_
  with_unfolding_all refine TX_nil ?_
  with_unfolding_all refine thenQ_normal ?_
  with_unfolding_all refine TE_block ?_
  obtain ⟨a21, h22, hF⟩ := bind_s hF
  refine TE_iter (f := F.law12_MatchOrders_2_s1 x0_ x1_ c0_) (s0 := 0) (a := a21) (fun (q13 : Int) z => ∃ (s15 : Mem), Own σ [] s15 [.obj id8 [.int .i64 (x1_.From), .int .i64 (x1_.To), .int .i64 (x1_.Part), .int .i64 (x1_.Weight)]] ∧ Le z ⟨fr 20 [(2, .ptr d0_ 0), (4, .ptr id8 0), (8, v0_), (9, .int .i64 ((x0_.length : Int))), (10, .int .i64 (q13))], [], s15⟩) (fun (a : (Unit ⊕ Bool)) e z => (∃ p17 : Unit, a = (.inl p17) ∧ e = .exit 0 ∧ ∃ (s18 : Mem), Own σ [] s18 [.obj id8 [.int .i64 (x1_.From), .int .i64 (x1_.To), .int .i64 (x1_.Part), .int .i64 (x1_.Weight)]] ∧ Le z ⟨fr 20 [], [], s18⟩) ∨ (∃ p20 : Bool, a = (.inr (p20)) ∧ e = .ret ∧ doneQ Try.prog Try.f28 (fun v σ' => eB.rel v p20 ∧ Ext σ σ') .ret z)) h22 ?_ ?_ ?_
  · skip
    exact ⟨s9, (hO10.sub 1 rfl), (Le_fr ⟨rfl, ⟨rfl, ⟨rfl, ⟨rfl, ⟨rfl, trivial⟩⟩⟩⟩⟩)⟩
  · skip
    clear hF
    rintro q13 zq13 r14 ⟨s15, hO16, hz23⟩ hF
    unfold F.law12_MatchOrders_2_s1 at hF
    refine TE_pre hz23 ?_
    with_unfolding_all refine TE_seq ?_
    with_unfolding_all refine TE_seqY ?_
    have hM24 := MB_none s15
    with_unfolding_all refine TX_cmp rfl rfl rfl ?_
    with_unfolding_all refine TX_nil ?_
    with_unfolding_all refine thenQ_normal ?_
    with_unfolding_all refine TE_seq ?_
    with_unfolding_all refine TE_cond rfl (fun hc25 => ?_) (fun hc25 => ?_)
    · skip
      replace hF := ite_t hc25 hF
      with_unfolding_all refine TE_skip ?_
      with_unfolding_all refine thenQ_normal ?_
      with_unfolding_all refine TE_seq ?_
      with_unfolding_all refine TE_block ?_
      with_unfolding_all refine TE_seq ?_
      obtain ⟨x26, h27, hF⟩ := bind_s hF
      with_unfolding_all refine TE_seqY ?_
      have hM28 := MB_none s15
      with_unfolding_all refine TY_idx (E := e_match_Span) rfl rfl rfl h0_ rfl h27 ?_
      intro u29 h30
      obtain rfl := h30
      with_unfolding_all refine TX_load_c rfl rfl ?_
      with_unfolding_all refine TY_alloc hO16 hM28 rfl rfl ?_
      rintro id31 s32 (hO33 : Own σ [] s32 [.obj id31 [.int .i64 (0), .int .i64 (0), .int .i64 (0), .int .i64 (0)], .obj id8 [.int .i64 (x1_.From), .int .i64 (x1_.To), .int .i64 (x1_.Part), .int .i64 (x1_.Weight)]]) hM34
      with_unfolding_all refine TY_store (v := .agg [.int .i64 (x26.From), .int .i64 (x26.To), .int .i64 (x26.Part), .int .i64 (x26.Weight)]) (vc := [.int .i64 (x26.From), .int .i64 (x26.To), .int .i64 (x26.Part), .int .i64 (x26.Weight)]) hO33 hM34 (MNe.none _) rfl rfl rfl rfl (by with_unfolding_all exact Nat.le_of_ble_eq_true rfl) (ones_cons rfl (ones_cons rfl (ones_cons rfl (ones_cons rfl ones_nil)))) rfl ?_
      rintro s35 (hO36 : Own σ [] s35 [.obj id31 [.int .i64 (x26.From), .int .i64 (x26.To), .int .i64 (x26.Part), .int .i64 (x26.Weight)], .obj id8 [.int .i64 (x1_.From), .int .i64 (x1_.To), .int .i64 (x1_.Part), .int .i64 (x1_.Weight)]]) hM37
      with_unfolding_all refine TX_nil ?_
      with_unfolding_all refine thenQ_normal ?_
      with_unfolding_all refine TE_seq ?_
      obtain ⟨x38, h39, hF⟩ := bind_s hF
      with_unfolding_all refine TE_seqY ?_
      have hM40 := MB_none s35
      with_unfolding_all refine TX_load_p rfl (MC_none (hO36.get0 m0_ (List.not_mem_nil))) rfl ?_
      with_unfolding_all refine TX_load_p rfl (MC_none (hO36.obj 0 rfl)) rfl ?_
      with_unfolding_all refine TX_load_p rfl (MC_none (hO36.obj 1 rfl)) rfl ?_
      have hc41 : CallE Try.prog g2 (fs3 ++ [.agg [.int .i64 (x26.From), .int .i64 (x26.To), .int .i64 (x26.Part), .int .i64 (x26.Weight)], .agg [.int .i64 (x1_.From), .int .i64 (x1_.To), .int .i64 (x1_.Part), .int .i64 (x1_.Weight)]] ++ cs4) s35 _ := hcall6 _ hO36.ext _ _ _ _ _ rfl rfl h39
      with_unfolding_all refine TY_call hM40 rfl hen5 hc41 ?_
      intro v42 s46 hv43 hX44 hM45
      have hO47 := hO36.ext_call hX44
      obtain rfl := hv43
      with_unfolding_all refine TX_not rfl ?_
      with_unfolding_all refine TX_nil ?_
      with_unfolding_all refine thenQ_normal ?_
      with_unfolding_all refine TE_cond rfl (fun hc48 => ?_) (fun hc48 => ?_)
      · skip
        replace hF := ite_t hc48 hF
        with_unfolding_all refine TE_seq ?_
        with_unfolding_all refine TE_seqY ?_
        have hM49 := MB_none s46
        with_unfolding_all refine TX_assign rfl ?_
        with_unfolding_all refine TX_nil ?_
        with_unfolding_all refine thenQ_normal ?_
        with_unfolding_all refine TE_ret ?_
        with_unfolding_all refine blockQ_ret ?_
        with_unfolding_all refine thenQ_ret ?_
        obtain rfl := some_s hF
        exact iterQ_ret (.inr <| ⟨_, rfl, rfl, (done_any (vs := [.bool (false)]) (.inr rfl) rfl (resR_tmp rfl resR_nil) ⟨rfl, hO47.ext⟩)⟩)
      · skip
        replace hF := ite_f hc48 hF
        with_unfolding_all refine TE_skip ?_
        with_unfolding_all refine blockQ_normal ?_
        with_unfolding_all refine thenQ_normal ?_
        with_unfolding_all refine TE_seqY ?_
        have hM50 := MB_none s46
        with_unfolding_all refine TX_ari rfl rfl rfl ?_
        with_unfolding_all refine TX_move rfl ?_
        with_unfolding_all refine TX_nil ?_
        obtain rfl := some_s hF
        have hO51 : Own σ [] s46 [.obj id8 [.int .i64 (x1_.From), .int .i64 (x1_.To), .int .i64 (x1_.Part), .int .i64 (x1_.Weight)], .obj id31 [.int .i64 (x26.From), .int .i64 (x26.To), .int .i64 (x26.Part), .int .i64 (x26.Weight)]] := hO47.front 1 rfl rfl
        exact iterQ_again ⟨s46, (hO51.sub 1 rfl), (Le_fr ⟨rfl, ⟨rfl, ⟨rfl, ⟨rfl, ⟨rfl, trivial⟩⟩⟩⟩⟩)⟩
    · skip
      replace hF := ite_f hc25 hF
      with_unfolding_all refine TE_exit ?_
      with_unfolding_all refine thenQ_exit ?_
      obtain rfl := some_s hF
      exact iterQ_exit (.inl <| ⟨_, rfl, rfl, s15, (hO16.sub 1 rfl), (Le_fr trivial)⟩)
  · skip
    rintro eq13 zq13 (⟨p17, rfl, rfl, s18, hO19, hz52⟩ | ⟨p20, rfl, rfl, hdp20⟩)
    · skip
      try dsimp only at hF
      with_unfolding_all refine blockQ_out ?_
      with_unfolding_all refine thenQ_normal ?_
      refine TE_pre hz52 ?_
      with_unfolding_all refine TE_seq ?_
      with_unfolding_all refine TE_seqY ?_
      have hM53 := MB_none s18
      with_unfolding_all refine TX_assign rfl ?_
      with_unfolding_all refine TX_nil ?_
      with_unfolding_all refine thenQ_normal ?_
      with_unfolding_all refine TE_ret ?_
      obtain rfl := some_s hF
      exact done_any (vs := [.bool (true)]) (.inr rfl) rfl (resR_tmp rfl resR_nil) ⟨rfl, hO19.ext⟩
    · skip
      try dsimp only at hF
      with_unfolding_all refine blockQ_ret ?_
      with_unfolding_all refine thenQ_ret ?_
      obtain rfl := some_s hF
      exact hdp20
theorem law12_MatchOrders_3_ok {x0_ : (List match_Span)} {c0_ : ((List match_Span) → match_Span → Option Bool)} {y : Bool} (hF : F.law12_MatchOrders_3 x0_ c0_ = some y) {v0_ : AV} {σ : Mem} (h0_ : (RS e_match_Span) v0_ x0_) {d0_ : Nat} {w0_ : AV} (k0_ : FnOK2 Try.prog w0_ σ (RS e_match_Span) e_match_Span.rel eB.rel c0_) (m0_ : σ[d0_]? = some (.cells w0_.cells)) :
    CallE Try.prog 30 [v0_, .ptr d0_ 0] σ (fun v σ' => eB.rel v y ∧ Ext σ σ') := by
  unfold F.law12_MatchOrders_3 at hF
  have h1 := k0_
  obtain ⟨g2, fs3, cs4, rfl, hen5, hcall6⟩ := k0_
  refine CallE_of Try.func30 rfl Try.ntmps30 (by simp) ?_
  have hO0 := Own.start σ
  with_unfolding_all refine TE_seq ?_
  with_unfolding_all refine TE_seqY ?_
  have hM7 := MB_none σ
  with_unfolding_all refine TX_assign rfl ?_
  with_unfolding_all refine TX_nil ?_
  with_unfolding_all refine thenQ_normal ?_
  with_unfolding_all refine TE_seq ?_
  with_unfolding_all refine TE_seq ?_
  with_unfolding_all refine TE_seqY ?_
  have hM8 := MB_none σ
  with_unfolding_all refine TX_move rfl ?_
  with_unfolding_all refine TY_len rfl rfl rfl rfl h0_ rfl ?_
  with_unfolding_all refine TX_move rfl ?_
  with_unfolding_all refine TX_nil ?_
  with_unfolding_all refine thenQ_normal ?_
  with_unfolding_all refine TE_block ?_
  obtain ⟨a17, h18, hF⟩ := bind_s hF
  refine TE_iter (f := F.law12_MatchOrders_3_s1 x0_ c0_) (s0 := 0) (a := a17) (fun (q9 : Int) z => ∃ (s11 : Mem), Own σ [] s11 [] ∧ Le z ⟨fr 18 [(0, v0_), (1, .ptr d0_ 0), (6, v0_), (7, .int .i64 ((x0_.length : Int))), (8, .int .i64 (q9))], [], s11⟩) (fun (a : (Unit ⊕ Bool)) e z => (∃ p13 : Unit, a = (.inl p13) ∧ e = .exit 0 ∧ ∃ (s14 : Mem), Own σ [] s14 [] ∧ Le z ⟨fr 18 [], [], s14⟩) ∨ (∃ p16 : Bool, a = (.inr (p16)) ∧ e = .ret ∧ doneQ Try.prog Try.f30 (fun v σ' => eB.rel v p16 ∧ Ext σ σ') .ret z)) h18 ?_ ?_ ?_
  · skip
    exact ⟨σ, (hO0.sub 0 rfl), (Le_fr ⟨rfl, ⟨rfl, ⟨rfl, ⟨rfl, ⟨rfl, trivial⟩⟩⟩⟩⟩)⟩
  · skip
    clear hF
    rintro q9 zq9 r10 ⟨s11, hO12, hz19⟩ hF
    unfold F.law12_MatchOrders_3_s1 at hF
    refine TE_pre hz19 ?_
    with_unfolding_all refine TE_seq ?_
    with_unfolding_all refine TE_seqY ?_
    have hM20 := MB_none s11
    with_unfolding_all refine TX_cmp rfl rfl rfl ?_
    with_unfolding_all refine TX_nil ?_
    with_unfolding_all refine thenQ_normal ?_
    with_unfolding_all refine TE_seq ?_
    with_unfolding_all refine TE_cond rfl (fun hc21 => ?_) (fun hc21 => ?_)
    · skip
      replace hF := ite_t hc21 hF
      with_unfolding_all refine TE_skip ?_
      with_unfolding_all refine thenQ_normal ?_
      with_unfolding_all refine TE_seq ?_
      with_unfolding_all refine TE_block ?_
      with_unfolding_all refine TE_seq ?_
      obtain ⟨x22, h23, hF⟩ := bind_s hF
      with_unfolding_all refine TE_seqY ?_
      have hM24 := MB_none s11
      with_unfolding_all refine TY_idx (E := e_match_Span) rfl rfl rfl h0_ rfl h23 ?_
      intro u25 h26
      obtain rfl := h26
      with_unfolding_all refine TX_load_c rfl rfl ?_
      with_unfolding_all refine TY_alloc hO12 hM24 rfl rfl ?_
      rintro id27 s28 (hO29 : Own σ [] s28 [.obj id27 [.int .i64 (0), .int .i64 (0), .int .i64 (0), .int .i64 (0)]]) hM30
      with_unfolding_all refine TY_store (v := .agg [.int .i64 (x22.From), .int .i64 (x22.To), .int .i64 (x22.Part), .int .i64 (x22.Weight)]) (vc := [.int .i64 (x22.From), .int .i64 (x22.To), .int .i64 (x22.Part), .int .i64 (x22.Weight)]) hO29 hM30 (MNe.none _) rfl rfl rfl rfl (by with_unfolding_all exact Nat.le_of_ble_eq_true rfl) (ones_cons rfl (ones_cons rfl (ones_cons rfl (ones_cons rfl ones_nil)))) rfl ?_
      rintro s31 (hO32 : Own σ [] s31 [.obj id27 [.int .i64 (x22.From), .int .i64 (x22.To), .int .i64 (x22.Part), .int .i64 (x22.Weight)]]) hM33
      with_unfolding_all refine TX_nil ?_
      with_unfolding_all refine thenQ_normal ?_
      with_unfolding_all refine TE_seq ?_
      obtain ⟨x34, h35, hF⟩ := bind_s hF
      with_unfolding_all refine TE_seqY ?_
      have hM36 := MB_none s31
      with_unfolding_all refine TX_load_p rfl (MC_none (hO32.get0 m0_ (List.not_mem_nil))) rfl ?_
      with_unfolding_all refine TX_move rfl ?_
      with_unfolding_all refine TX_load_p rfl (MC_none (hO32.obj 0 rfl)) rfl ?_
      have hc37 : CallE Try.prog g2 (fs3 ++ [v0_, .agg [.int .i64 (x22.From), .int .i64 (x22.To), .int .i64 (x22.Part), .int .i64 (x22.Weight)]] ++ cs4) s31 _ := hcall6 _ hO32.ext _ _ _ _ _ h0_ rfl h35
      with_unfolding_all refine TY_call hM36 rfl hen5 hc37 ?_
      intro v38 s42 hv39 hX40 hM41
      have hO43 := hO32.ext_call hX40
      obtain rfl := hv39
      with_unfolding_all refine TX_not rfl ?_
      with_unfolding_all refine TX_nil ?_
      with_unfolding_all refine thenQ_normal ?_
      with_unfolding_all refine TE_cond rfl (fun hc44 => ?_) (fun hc44 => ?_)
      · skip
        replace hF := ite_t hc44 hF
        with_unfolding_all refine TE_seq ?_
        with_unfolding_all refine TE_seqY ?_
        have hM45 := MB_none s42
        with_unfolding_all refine TX_assign rfl ?_
        with_unfolding_all refine TX_nil ?_
        with_unfolding_all refine thenQ_normal ?_
        with_unfolding_all refine TE_ret ?_
        with_unfolding_all refine blockQ_ret ?_
        with_unfolding_all refine thenQ_ret ?_
        obtain rfl := some_s hF
        exact iterQ_ret (.inr <| ⟨_, rfl, rfl, (done_any (vs := [.bool (false)]) (.inr rfl) rfl (resR_tmp rfl resR_nil) ⟨rfl, hO43.ext⟩)⟩)
      · skip
        replace hF := ite_f hc44 hF
        with_unfolding_all refine TE_skip ?_
        with_unfolding_all refine blockQ_normal ?_
        with_unfolding_all refine thenQ_normal ?_
        with_unfolding_all refine TE_seqY ?_
        have hM46 := MB_none s42
        with_unfolding_all refine TX_ari rfl rfl rfl ?_
        with_unfolding_all refine TX_move rfl ?_
        with_unfolding_all refine TX_nil ?_
        obtain rfl := some_s hF
        exact iterQ_again ⟨s42, (hO43.sub 0 rfl), (Le_fr ⟨rfl, ⟨rfl, ⟨rfl, ⟨rfl, ⟨rfl, trivial⟩⟩⟩⟩⟩)⟩
    · skip
      replace hF := ite_f hc21 hF
      with_unfolding_all refine TE_exit ?_
      with_unfolding_all refine thenQ_exit ?_
      obtain rfl := some_s hF
      exact iterQ_exit (.inl <| ⟨_, rfl, rfl, s11, (hO12.sub 0 rfl), (Le_fr trivial)⟩)
  · skip
    rintro eq9 zq9 (⟨p13, rfl, rfl, s14, hO15, hz47⟩ | ⟨p16, rfl, rfl, hdp16⟩)
    · skip
      try dsimp only at hF
      with_unfolding_all refine blockQ_out ?_
      with_unfolding_all refine thenQ_normal ?_
      refine TE_pre hz47 ?_
      with_unfolding_all refine TE_seq ?_
      with_unfolding_all refine TE_seqY ?_
      have hM48 := MB_none s14
      with_unfolding_all refine TX_assign rfl ?_
      with_unfolding_all refine TX_nil ?_
      with_unfolding_all refine thenQ_normal ?_
      with_unfolding_all refine TE_ret ?_
      obtain rfl := some_s hF
      exact done_any (vs := [.bool (true)]) (.inr rfl) rfl (resR_tmp rfl resR_nil) ⟨rfl, hO15.ext⟩
    · skip
      try dsimp only at hF
      with_unfolding_all refine blockQ_ret ?_
      with_unfolding_all refine thenQ_ret ?_
      obtain rfl := some_s hF
      exact hdp16
theorem law12_filter_ok {x0_ : (List match_Match)} {x1_ : ((List match_Span) → Option Bool)} {x2_ : ((List match_Span) → match_Span → Option Bool)} {y : (List match_Match)} (hF : F.law12_filter x0_ x1_ x2_ = some y) {v0_ : AV} {v1_ : AV} {v2_ : AV} {σ : Mem} (h0_ : (RS e_match_Match) v0_ x0_) (h1_ : FnOK1 Try.prog v1_ σ (RS e_match_Span) eB.rel x1_) (h2_ : FnOK2 Try.prog v2_ σ (RS e_match_Span) e_match_Span.rel eB.rel x2_)  :
    CallE Try.prog 29 [v0_, v1_, v2_] σ (fun v σ' => (RS e_match_Match) v y ∧ Ext σ σ') := by
  unfold F.law12_filter at hF
  have h1 := h1_
  obtain ⟨g2, fs3, cs4, rfl, hen5, hcall6⟩ := h1_
  have h7 := h2_
  obtain ⟨g8, fs9, cs10, rfl, hen11, hcall12⟩ := h2_
  refine CallE_of Try.func29 rfl Try.ntmps29 (by simp) ?_
  have hO0 := Own.start σ
  with_unfolding_all refine TE_seq ?_
  with_unfolding_all refine TE_seqY ?_
  have hM13 := MB_none σ
  with_unfolding_all refine TX_assign rfl ?_
  with_unfolding_all refine TX_nil ?_
  with_unfolding_all refine thenQ_normal ?_
  with_unfolding_all refine TE_seq ?_
  with_unfolding_all refine TE_seqY ?_
  have hM14 := MB_none σ
  have h15 : All2 e_match_Match.rel ([] : List AV) ([] : (List match_Match)) := trivial
  with_unfolding_all refine TY_buildSlice rfl rfl rfl rfl rfl h15 rfl (by decide) (by with_unfolding_all exact Nat.le_of_ble_eq_true rfl) ?_
  have h16 : RS e_match_Match (.sl [] .full) ([] : (List match_Match)) := RS.of h15
  with_unfolding_all refine TX_assign rfl ?_
  with_unfolding_all refine TX_nil ?_
  with_unfolding_all refine thenQ_normal ?_
  with_unfolding_all refine TE_seq ?_
  with_unfolding_all refine TE_seq ?_
  with_unfolding_all refine TE_seqY ?_
  have hM17 := MB_none σ
  with_unfolding_all refine TX_move rfl ?_
  with_unfolding_all refine TY_len rfl rfl rfl rfl h0_ rfl ?_
  with_unfolding_all refine TX_move rfl ?_
  with_unfolding_all refine TX_nil ?_
  with_unfolding_all refine thenQ_normal ?_
  with_unfolding_all refine TE_block ?_
  obtain ⟨p24, h30, hF⟩ := bind_s hF
  refine TE_iter (f := F.law12_filter_s1 x0_ x1_ x2_) (s0 := (([] : (List match_Match)), 0)) (a := p24) (fun (q18 : ((List match_Match) × Int)) z => ∃ (u20 : AV) (s22 : Mem), RS e_match_Match u20 q18.1 ∧ Own σ [] s22 [.buf u20] ∧ Le z ⟨fr 53 [(1, (.fn (.func g2) fs3 cs4)), (2, (.fn (.func g8) fs9 cs10)), (7, u20), (14, v0_), (15, .int .i64 ((x0_.length : Int))), (16, .int .i64 (q18.2))], [], s22⟩) (fun (p24 : (List match_Match)) e z => (e = .exit 0 ∧ ∃ (u25 : AV) (s27 : Mem), RS e_match_Match u25 p24 ∧ Own σ [] s27 [.buf u25] ∧ Le z ⟨fr 53 [(7, u25)], [], s27⟩)) h30 ?_ ?_ ?_
  · skip
    have hO31 : Own σ [] σ [.buf (.sl [] .full)] := hO0.bufFull []
    exact ⟨(.sl [] .full), σ, h16, (hO31.sub 1 rfl), (Le_fr ⟨rfl, ⟨rfl, ⟨rfl, ⟨rfl, ⟨rfl, ⟨rfl, trivial⟩⟩⟩⟩⟩⟩)⟩
  · skip
    clear hF
    rintro q18 zq18 r19 ⟨u20, s22, h21, hO23, hz32⟩ hF
    unfold F.law12_filter_s1 at hF
    refine TE_pre hz32 ?_
    with_unfolding_all refine TE_seq ?_
    with_unfolding_all refine TE_seqY ?_
    have hM33 := MB_none s22
    with_unfolding_all refine TX_cmp rfl rfl rfl ?_
    with_unfolding_all refine TX_nil ?_
    with_unfolding_all refine thenQ_normal ?_
    with_unfolding_all refine TE_seq ?_
    with_unfolding_all refine TE_cond rfl (fun hc34 => ?_) (fun hc34 => ?_)
    · skip
      replace hF := ite_t hc34 hF
      with_unfolding_all refine TE_skip ?_
      with_unfolding_all refine thenQ_normal ?_
      with_unfolding_all refine TE_seq ?_
      with_unfolding_all refine TE_block ?_
      with_unfolding_all refine TE_seq ?_
      obtain ⟨x35, h36, hF⟩ := bind_s hF
      with_unfolding_all refine TE_seqY ?_
      have hM41 := MB_none s22
      with_unfolding_all refine TY_idx (E := e_match_Match) rfl rfl rfl h0_ rfl h36 ?_
      intro u42 h43
      obtain ⟨u44, u46, rfl, h45, h47⟩ := h43
      with_unfolding_all refine TX_load_c rfl rfl ?_
      with_unfolding_all refine TY_alloc hO23 hM41 rfl rfl ?_
      rintro id48 s49 (hO50 : Own σ [] s49 [.obj id48 [.nils, .nils], .buf u20]) hM51
      with_unfolding_all refine TY_store (v := .agg [u44, u46]) (vc := [u44, u46]) hO50 hM51 (MNe.none _) rfl rfl rfl rfl (by with_unfolding_all exact Nat.le_of_ble_eq_true rfl) (ones_cons (RS.one1 h45) (ones_cons (RS.one1 h47) ones_nil)) rfl ?_
      rintro s52 (hO53 : Own σ [] s52 [.obj id48 [u44, u46], .buf u20]) hM54
      with_unfolding_all refine TX_nil ?_
      with_unfolding_all refine thenQ_normal ?_
      with_unfolding_all refine TE_seq ?_
      with_unfolding_all refine TE_seq ?_
      obtain ⟨x55, h56, hF⟩ := bind_s hF
      with_unfolding_all refine TE_seqY ?_
      have hM57 := MB_none s52
      with_unfolding_all refine TX_move rfl ?_
      with_unfolding_all refine TX_fieldAddr_p rfl rfl rfl ?_
      with_unfolding_all refine TX_load_p rfl (MC_none (hO53.obj 0 rfl)) rfl ?_
      have hc58 : CallE Try.prog g2 (fs3 ++ [u44] ++ cs4) s52 _ := hcall6 _ hO53.ext _ _ _ h45 h56
      with_unfolding_all refine TY_call hM57 rfl hen5 hc58 ?_
      intro v59 s63 hv60 hX61 hM62
      have hO64 := hO53.ext_call hX61
      obtain rfl := hv60
      with_unfolding_all refine TX_not rfl ?_
      with_unfolding_all refine TX_nil ?_
      with_unfolding_all refine thenQ_normal ?_
      with_unfolding_all refine TE_cond rfl (fun hc65 => ?_) (fun hc65 => ?_)
      · skip
        replace hF := ite_t hc65 hF
        with_unfolding_all refine TE_exit ?_
        with_unfolding_all refine thenQ_exit ?_
        with_unfolding_all refine blockQ_out ?_
        with_unfolding_all refine thenQ_normal ?_
        with_unfolding_all refine TE_seqY ?_
        have hM66 := MB_none s63
        with_unfolding_all refine TX_ari rfl rfl rfl ?_
        with_unfolding_all refine TX_move rfl ?_
        with_unfolding_all refine TX_nil ?_
        obtain rfl := some_s hF
        have hO67 : Own σ [] s63 [.buf u20, .obj id48 [u44, u46]] := hO64.front 1 rfl rfl
        exact iterQ_again ⟨u20, s63, h21, (hO67.sub 1 rfl), (Le_fr ⟨rfl, ⟨rfl, ⟨rfl, ⟨rfl, ⟨rfl, ⟨rfl, trivial⟩⟩⟩⟩⟩⟩)⟩
      · skip
        replace hF := ite_f hc65 hF
        with_unfolding_all refine TE_skip ?_
        with_unfolding_all refine thenQ_normal ?_
        with_unfolding_all refine TE_seq ?_
        with_unfolding_all refine TE_seqY ?_
        have hM68 := MB_none s63
        with_unfolding_all refine TX_fieldAddr_p rfl rfl rfl ?_
        with_unfolding_all refine TX_load_p rfl (MC_none (hO64.obj 0 rfl)) rfl ?_
        with_unfolding_all refine TY_build [u44, .nils] rfl rfl rfl (by with_unfolding_all exact Fill.cons rfl (RS.cells h45) rfl (by with_unfolding_all exact Nat.le_of_ble_eq_true rfl) (Fill.nil _)) (by with_unfolding_all rfl) ?_
        with_unfolding_all refine TY_alloc hO64 hM68 rfl rfl ?_
        rintro id69 s70 (hO71 : Own σ [] s70 [.obj id69 [.nils, .nils], .obj id48 [u44, u46], .buf u20]) hM72
        with_unfolding_all refine TY_store (v := .agg [u44, .nils]) (vc := [u44, .nils]) hO71 hM72 (MNe.none _) rfl rfl rfl rfl (by with_unfolding_all exact Nat.le_of_ble_eq_true rfl) (ones_cons (RS.one1 h45) (ones_cons (RS.one1 (RS.nil e_match_Span)) ones_nil)) rfl ?_
        rintro s73 (hO74 : Own σ [] s73 [.obj id69 [u44, .nils], .obj id48 [u44, u46], .buf u20]) hM75
        with_unfolding_all refine TX_nil ?_
        with_unfolding_all refine thenQ_normal ?_
        with_unfolding_all refine TE_seq ?_
        with_unfolding_all refine TE_seq ?_
        with_unfolding_all refine TE_seqY ?_
        have hM76 := MB_none s73
        with_unfolding_all refine TX_fieldAddr_p rfl rfl rfl ?_
        with_unfolding_all refine TX_load_p rfl (MC_none (hO74.obj 1 rfl)) rfl ?_
        with_unfolding_all refine TY_len rfl rfl rfl rfl h47 rfl ?_
        with_unfolding_all refine TX_move rfl ?_
        with_unfolding_all refine TX_nil ?_
        with_unfolding_all refine thenQ_normal ?_
        with_unfolding_all refine TE_block ?_
        obtain ⟨p85, h93, hF⟩ := bind_s hF
        refine TE_iter (f := F.law12_filter_s2 x2_ x35) (s0 := (0, (F.match_Match.mk x35.In []))) (a := p85) (fun (q77 : (Int × match_Match)) z => ∃ (u79 : AV) (u81 : AV) (s83 : Mem), RS e_match_Span u79 q77.2.In ∧ RS e_match_Span u81 q77.2.Out ∧ Own σ [] s83 [.buf u81, .obj id69 [u79, u81], .obj id48 [u44, u46], .buf u20] ∧ Le z ⟨fr 53 [(1, (.fn (.func g2) fs3 cs4)), (2, (.fn (.func g8) fs9 cs10)), (7, u20), (9, .ptr id48 0), (10, .ptr id69 0), (14, v0_), (15, .int .i64 ((x0_.length : Int))), (16, .int .i64 (q18.2)), (29, u46), (30, .int .i64 ((x35.Out.length : Int))), (31, .int .i64 (q77.1))], [], s83⟩) (fun (p85 : match_Match) e z => (e = .exit 2 ∧ ∃ (u86 : AV) (u88 : AV) (s90 : Mem), RS e_match_Span u86 p85.In ∧ RS e_match_Span u88 p85.Out ∧ Own σ [] s90 [.buf u88, .obj id69 [u86, u88], .obj id48 [u44, u46], .buf u20] ∧ Le z ⟨fr 53 [(1, (.fn (.func g2) fs3 cs4)), (2, (.fn (.func g8) fs9 cs10)), (7, u20), (10, .ptr id69 0), (14, v0_), (15, .int .i64 ((x0_.length : Int))), (16, .int .i64 (q18.2))], [], s90⟩)) h93 ?_ ?_ ?_
        · skip
          have hO94 : Own σ [] s73 [.buf .nils, .obj id69 [u44, .nils], .obj id48 [u44, u46], .buf u20] := hO74.buf0
          have hO95 : Own σ [] s73 [.buf u20, .buf .nils, .obj id69 [u44, .nils], .obj id48 [u44, u46]] := hO94.front 3 rfl rfl
          have hO96 : Own σ [] s73 [.obj id48 [u44, u46], .buf u20, .buf .nils, .obj id69 [u44, .nils]] := hO95.front 3 rfl rfl
          have hO97 : Own σ [] s73 [.obj id69 [u44, .nils], .obj id48 [u44, u46], .buf u20, .buf .nils] := hO96.front 3 rfl rfl
          have hO98 : Own σ [] s73 [.buf .nils, .obj id69 [u44, .nils], .obj id48 [u44, u46], .buf u20] := hO97.front 3 rfl rfl
          exact ⟨u44, .nils, s73, h45, (RS.nil e_match_Span), (hO98.sub 4 rfl), (Le_fr ⟨rfl, ⟨rfl, ⟨rfl, ⟨rfl, ⟨rfl, ⟨rfl, ⟨rfl, ⟨rfl, ⟨rfl, ⟨rfl, ⟨rfl, trivial⟩⟩⟩⟩⟩⟩⟩⟩⟩⟩⟩)⟩
        · skip
          clear hF
          rintro q77 zq77 r78 ⟨u79, u81, s83, h80, h82, hO84, hz99⟩ hF
          unfold F.law12_filter_s2 at hF
          refine TE_pre hz99 ?_
          with_unfolding_all refine TE_seq ?_
          with_unfolding_all refine TE_seqY ?_
          have hM100 := MB_none s83
          with_unfolding_all refine TX_cmp rfl rfl rfl ?_
          with_unfolding_all refine TX_nil ?_
          with_unfolding_all refine thenQ_normal ?_
          with_unfolding_all refine TE_seq ?_
          with_unfolding_all refine TE_cond rfl (fun hc101 => ?_) (fun hc101 => ?_)
          · skip
            replace hF := ite_t hc101 hF
            with_unfolding_all refine TE_skip ?_
            with_unfolding_all refine thenQ_normal ?_
            with_unfolding_all refine TE_seq ?_
            with_unfolding_all refine TE_block ?_
            with_unfolding_all refine TE_seq ?_
            obtain ⟨x102, h103, hF⟩ := bind_s hF
            with_unfolding_all refine TE_seqY ?_
            have hM104 := MB_none s83
            with_unfolding_all refine TY_idx (E := e_match_Span) rfl rfl rfl h47 rfl h103 ?_
            intro u105 h106
            obtain rfl := h106
            with_unfolding_all refine TX_load_c rfl rfl ?_
            with_unfolding_all refine TY_alloc hO84 hM104 rfl rfl ?_
            rintro id107 s108 (hO109 : Own σ [] s108 [.obj id107 [.int .i64 (0), .int .i64 (0), .int .i64 (0), .int .i64 (0)], .buf u81, .obj id69 [u79, u81], .obj id48 [u44, u46], .buf u20]) hM110
            with_unfolding_all refine TY_store (v := .agg [.int .i64 (x102.From), .int .i64 (x102.To), .int .i64 (x102.Part), .int .i64 (x102.Weight)]) (vc := [.int .i64 (x102.From), .int .i64 (x102.To), .int .i64 (x102.Part), .int .i64 (x102.Weight)]) hO109 hM110 (MNe.none _) rfl rfl rfl rfl (by with_unfolding_all exact Nat.le_of_ble_eq_true rfl) (ones_cons rfl (ones_cons rfl (ones_cons rfl (ones_cons rfl ones_nil)))) rfl ?_
            rintro s111 (hO112 : Own σ [] s111 [.obj id107 [.int .i64 (x102.From), .int .i64 (x102.To), .int .i64 (x102.Part), .int .i64 (x102.Weight)], .buf u81, .obj id69 [u79, u81], .obj id48 [u44, u46], .buf u20]) hM113
            with_unfolding_all refine TX_nil ?_
            with_unfolding_all refine thenQ_normal ?_
            with_unfolding_all refine TE_seq ?_
            obtain ⟨x114, h115, hF⟩ := bind_s hF
            with_unfolding_all refine TE_seqY ?_
            have hM116 := MB_none s111
            with_unfolding_all refine TX_move rfl ?_
            with_unfolding_all refine TX_fieldAddr_p rfl rfl rfl ?_
            with_unfolding_all refine TX_load_p rfl (MC_none (hO112.obj 3 rfl)) rfl ?_
            with_unfolding_all refine TX_load_p rfl (MC_none (hO112.obj 0 rfl)) rfl ?_
            have hc117 : CallE Try.prog g8 (fs9 ++ [u44, .agg [.int .i64 (x102.From), .int .i64 (x102.To), .int .i64 (x102.Part), .int .i64 (x102.Weight)]] ++ cs10) s111 _ := hcall12 _ hO112.ext _ _ _ _ _ h45 rfl h115
            with_unfolding_all refine TY_call hM116 rfl hen11 hc117 ?_
            intro v118 s122 hv119 hX120 hM121
            have hO123 := hO112.ext_call hX120
            obtain rfl := hv119
            with_unfolding_all refine TX_nil ?_
            with_unfolding_all refine thenQ_normal ?_
            with_unfolding_all refine TE_cond rfl (fun hc124 => ?_) (fun hc124 => ?_)
            · skip
              replace hF := ite_t hc124 hF
              obtain ⟨x125, h126, hF⟩ := bind_s hF
              with_unfolding_all refine TE_seqY ?_
              have hM127 := MB_none s122
              with_unfolding_all refine TX_fieldAddr_p rfl rfl rfl ?_
              with_unfolding_all refine TX_load_p rfl (MC_none (hO123.obj 2 rfl)) rfl ?_
              with_unfolding_all refine TX_load_p rfl (MC_none (hO123.obj 0 rfl)) rfl ?_
              have h128 : All2 e_match_Span.rel ([.agg [.int .i64 (x102.From), .int .i64 (x102.To), .int .i64 (x102.Part), .int .i64 (x102.Weight)]] : List AV) ([x102] : (List match_Span)) := ⟨rfl, trivial⟩
              with_unfolding_all refine TY_buildSlice rfl rfl rfl rfl rfl h128 rfl (by decide) (by with_unfolding_all exact Nat.le_of_ble_eq_true rfl) ?_
              have h129 : RS e_match_Span (.sl [.agg [.int .i64 (x102.From), .int .i64 (x102.To), .int .i64 (x102.Part), .int .i64 (x102.Weight)]] .full) ([x102] : (List match_Span)) := RS.of h128
              have hO130 : Own σ [] s122 [.buf u81, .obj id107 [.int .i64 (x102.From), .int .i64 (x102.To), .int .i64 (x102.Part), .int .i64 (x102.Weight)], .obj id69 [u79, u81], .obj id48 [u44, u46], .buf u20] := hO123.front 1 rfl rfl
              with_unfolding_all refine TY_append appT25_25 hO130 hM127 rfl rfl rfl rfl h82 rfl h129 h126 ?_
              rintro u131 s133 (h132 : RS e_match_Span u131 x125) (hO134 : Own σ [] s133 [.buf u131, .obj id107 [.int .i64 (x102.From), .int .i64 (x102.To), .int .i64 (x102.Part), .int .i64 (x102.Weight)], .obj id69 [u79, u81], .obj id48 [u44, u46], .buf u20]) hM135
              with_unfolding_all refine TX_fieldAddr_p rfl rfl rfl ?_
              have hO136 : Own σ [] s133 [.obj id69 [u79, u81], .buf u131, .obj id107 [.int .i64 (x102.From), .int .i64 (x102.To), .int .i64 (x102.Part), .int .i64 (x102.Weight)], .obj id48 [u44, u46], .buf u20] := hO134.front 2 rfl rfl
              with_unfolding_all refine TY_store (v := u131) (vc := [u131]) hO136 hM135 (MNe.none _) rfl rfl (RS.cells h132) rfl (by with_unfolding_all exact Nat.le_of_ble_eq_true rfl) (ones_cons (RS.one1 h132) ones_nil) rfl ?_
              rintro s137 (hO138 : Own σ [] s137 [.obj id69 [u79, u131], .buf u131, .obj id107 [.int .i64 (x102.From), .int .i64 (x102.To), .int .i64 (x102.Part), .int .i64 (x102.Weight)], .obj id48 [u44, u46], .buf u20]) hM139
              with_unfolding_all refine TX_nil ?_
              with_unfolding_all refine blockQ_normal ?_
              with_unfolding_all refine thenQ_normal ?_
              with_unfolding_all refine TE_seqY ?_
              have hM140 := MB_none s137
              with_unfolding_all refine TX_ari rfl rfl rfl ?_
              with_unfolding_all refine TX_move rfl ?_
              with_unfolding_all refine TX_nil ?_
              obtain rfl := some_s hF
              have hO141 : Own σ [] s137 [.buf u20, .obj id69 [u79, u131], .buf u131, .obj id107 [.int .i64 (x102.From), .int .i64 (x102.To), .int .i64 (x102.Part), .int .i64 (x102.Weight)], .obj id48 [u44, u46]] := hO138.front 4 rfl rfl
              have hO142 : Own σ [] s137 [.obj id48 [u44, u46], .buf u20, .obj id69 [u79, u131], .buf u131, .obj id107 [.int .i64 (x102.From), .int .i64 (x102.To), .int .i64 (x102.Part), .int .i64 (x102.Weight)]] := hO141.front 4 rfl rfl
              have hO143 : Own σ [] s137 [.obj id69 [u79, u131], .obj id48 [u44, u46], .buf u20, .buf u131, .obj id107 [.int .i64 (x102.From), .int .i64 (x102.To), .int .i64 (x102.Part), .int .i64 (x102.Weight)]] := hO142.front 2 rfl rfl
              have hO144 : Own σ [] s137 [.buf u131, .obj id69 [u79, u131], .obj id48 [u44, u46], .buf u20, .obj id107 [.int .i64 (x102.From), .int .i64 (x102.To), .int .i64 (x102.Part), .int .i64 (x102.Weight)]] := hO143.front 3 rfl rfl
              exact iterQ_again ⟨u79, u131, s137, h80, h132, (hO144.sub 4 rfl), (Le_fr ⟨rfl, ⟨rfl, ⟨rfl, ⟨rfl, ⟨rfl, ⟨rfl, ⟨rfl, ⟨rfl, ⟨rfl, ⟨rfl, ⟨rfl, trivial⟩⟩⟩⟩⟩⟩⟩⟩⟩⟩⟩)⟩
            · skip
              replace hF := ite_f hc124 hF
              with_unfolding_all refine TE_skip ?_
              with_unfolding_all refine blockQ_normal ?_
              with_unfolding_all refine thenQ_normal ?_
              with_unfolding_all refine TE_seqY ?_
              have hM145 := MB_none s122
              with_unfolding_all refine TX_ari rfl rfl rfl ?_
              with_unfolding_all refine TX_move rfl ?_
              with_unfolding_all refine TX_nil ?_
              obtain rfl := some_s hF
              have hO146 : Own σ [] s122 [.buf u20, .obj id107 [.int .i64 (x102.From), .int .i64 (x102.To), .int .i64 (x102.Part), .int .i64 (x102.Weight)], .buf u81, .obj id69 [u79, u81], .obj id48 [u44, u46]] := hO123.front 4 rfl rfl
              have hO147 : Own σ [] s122 [.obj id48 [u44, u46], .buf u20, .obj id107 [.int .i64 (x102.From), .int .i64 (x102.To), .int .i64 (x102.Part), .int .i64 (x102.Weight)], .buf u81, .obj id69 [u79, u81]] := hO146.front 4 rfl rfl
              have hO148 : Own σ [] s122 [.obj id69 [u79, u81], .obj id48 [u44, u46], .buf u20, .obj id107 [.int .i64 (x102.From), .int .i64 (x102.To), .int .i64 (x102.Part), .int .i64 (x102.Weight)], .buf u81] := hO147.front 4 rfl rfl
              have hO149 : Own σ [] s122 [.buf u81, .obj id69 [u79, u81], .obj id48 [u44, u46], .buf u20, .obj id107 [.int .i64 (x102.From), .int .i64 (x102.To), .int .i64 (x102.Part), .int .i64 (x102.Weight)]] := hO148.front 4 rfl rfl
              exact iterQ_again ⟨u79, u81, s122, h80, h82, (hO149.sub 4 rfl), (Le_fr ⟨rfl, ⟨rfl, ⟨rfl, ⟨rfl, ⟨rfl, ⟨rfl, ⟨rfl, ⟨rfl, ⟨rfl, ⟨rfl, ⟨rfl, trivial⟩⟩⟩⟩⟩⟩⟩⟩⟩⟩⟩)⟩
          · skip
            replace hF := ite_f hc101 hF
            with_unfolding_all refine TE_exit ?_
            with_unfolding_all refine thenQ_exit ?_
            obtain rfl := some_s hF
            have hO150 : Own σ [] s83 [.buf u20, .buf u81, .obj id69 [u79, u81], .obj id48 [u44, u46]] := hO84.front 3 rfl rfl
            have hO151 : Own σ [] s83 [.obj id48 [u44, u46], .buf u20, .buf u81, .obj id69 [u79, u81]] := hO150.front 3 rfl rfl
            have hO152 : Own σ [] s83 [.obj id69 [u79, u81], .obj id48 [u44, u46], .buf u20, .buf u81] := hO151.front 3 rfl rfl
            have hO153 : Own σ [] s83 [.buf u81, .obj id69 [u79, u81], .obj id48 [u44, u46], .buf u20] := hO152.front 3 rfl rfl
            exact iterQ_exit (⟨rfl, u79, u81, s83, h80, h82, (hO153.sub 4 rfl), (Le_fr ⟨rfl, ⟨rfl, ⟨rfl, ⟨rfl, ⟨rfl, ⟨rfl, ⟨rfl, trivial⟩⟩⟩⟩⟩⟩⟩)⟩)
        · skip
          rintro eq77 zq77 (⟨rfl, u86, u88, s90, h87, h89, hO91, hz154⟩)
          with_unfolding_all refine blockQ_out ?_
          with_unfolding_all refine thenQ_normal ?_
          refine TE_pre hz154 ?_
          obtain ⟨x155, h156, hF⟩ := bind_s hF
          with_unfolding_all refine TE_seqY ?_
          have hM157 := MB_none s90
          with_unfolding_all refine TX_move rfl ?_
          with_unfolding_all refine TX_load_p rfl (MC_none (hO91.obj 1 rfl)) rfl ?_
          have h158 : All2 e_match_Match.rel ([.agg [u86, u88]] : List AV) ([p85] : (List match_Match)) := ⟨⟨u86, u88, rfl, h87, h89⟩, trivial⟩
          with_unfolding_all refine TY_buildSlice rfl rfl rfl rfl rfl h158 rfl (by decide) (by with_unfolding_all exact Nat.le_of_ble_eq_true rfl) ?_
          have h159 : RS e_match_Match (.sl [.agg [u86, u88]] .full) ([p85] : (List match_Match)) := RS.of h158
          have hO160 : Own σ [] s90 [.buf u20, .buf u88, .obj id69 [u86, u88], .obj id48 [u44, u46]] := hO91.front 3 rfl rfl
          with_unfolding_all refine TY_append appT22_22 hO160 hM157 rfl rfl rfl rfl h21 rfl h159 h156 ?_
          rintro u161 s163 (h162 : RS e_match_Match u161 x155) (hO164 : Own σ [] s163 [.buf u161, .buf u88, .obj id69 [u86, u88], .obj id48 [u44, u46]]) hM165
          with_unfolding_all refine TX_assign rfl ?_
          with_unfolding_all refine TX_nil ?_
          with_unfolding_all refine blockQ_normal ?_
          with_unfolding_all refine thenQ_normal ?_
          with_unfolding_all refine TE_seqY ?_
          have hM166 := MB_none s163
          with_unfolding_all refine TX_ari rfl rfl rfl ?_
          with_unfolding_all refine TX_move rfl ?_
          with_unfolding_all refine TX_nil ?_
          obtain rfl := some_s hF
          exact iterQ_again ⟨u161, s163, h162, (hO164.sub 1 rfl), (Le_fr ⟨rfl, ⟨rfl, ⟨rfl, ⟨rfl, ⟨rfl, ⟨rfl, trivial⟩⟩⟩⟩⟩⟩)⟩
    · skip
      replace hF := ite_f hc34 hF
      with_unfolding_all refine TE_exit ?_
      with_unfolding_all refine thenQ_exit ?_
      obtain rfl := some_s hF
      exact iterQ_exit (⟨rfl, u20, s22, h21, (hO23.sub 1 rfl), (Le_fr ⟨rfl, trivial⟩)⟩)
  · skip
    rintro eq18 zq18 (⟨rfl, u25, s27, h26, hO28, hz167⟩)
    with_unfolding_all refine blockQ_out ?_
    with_unfolding_all refine thenQ_normal ?_
    refine TE_pre hz167 ?_
    with_unfolding_all refine TE_seq ?_
    with_unfolding_all refine TE_seqY ?_
    have hM168 := MB_none s27
    with_unfolding_all refine TX_move rfl ?_
    with_unfolding_all refine TX_assign rfl ?_
    with_unfolding_all refine TX_nil ?_
    with_unfolding_all refine thenQ_normal ?_
    with_unfolding_all refine TE_ret ?_
    obtain rfl := some_s hF
    exact done_any (vs := [u25]) (.inr rfl) rfl (resR_tmp rfl resR_nil) ⟨h26, hO28.ext⟩
theorem match_inOrder_ok {x0_ : match_Span} {x1_ : match_Span} {y : Bool} (hF : F.match_inOrder x0_ x1_ = some y) {v0_ : AV} {v1_ : AV} {σ : Mem} (h0_ : e_match_Span.rel v0_ x0_) (h1_ : e_match_Span.rel v1_ x1_)  :
    CallE Try.prog 69 [v0_, v1_] σ (fun v σ' => eB.rel v y ∧ Ext σ σ') := by
  unfold F.match_inOrder at hF
  obtain rfl := h0_
  obtain rfl := h1_
  refine CallE_of Try.func69 rfl Try.ntmps69 (by simp) ?_
  have hO0 := Own.start σ
  with_unfolding_all refine TE_seq ?_
  with_unfolding_all refine TE_seqY ?_
  have hM1 := MB_none σ
  with_unfolding_all refine TY_box hO0 hM1 rfl rfl ?_
  rintro id2 s3 (hO4 : Own σ [] s3 [.obj id2 [.int .i64 (x0_.From), .int .i64 (x0_.To), .int .i64 (x0_.Part), .int .i64 (x0_.Weight)]]) hM5
  with_unfolding_all refine TY_box hO4 hM5 rfl rfl ?_
  rintro id6 s7 (hO8 : Own σ [] s7 [.obj id6 [.int .i64 (x1_.From), .int .i64 (x1_.To), .int .i64 (x1_.Part), .int .i64 (x1_.Weight)], .obj id2 [.int .i64 (x0_.From), .int .i64 (x0_.To), .int .i64 (x0_.Part), .int .i64 (x0_.Weight)]]) hM9
  with_unfolding_all refine TX_assign rfl ?_
  with_unfolding_all refine TX_nil ?_
  with_unfolding_all refine thenQ_normal ?_
  with_unfolding_all refine TE_seq ?_
  obtain ⟨r10, h11, hF⟩ := bind_s hF
  obtain ⟨r12, h13, hF⟩ := bind_s hF
  with_unfolding_all refine TE_seqY ?_
  have hM14 := MB_none s7
  with_unfolding_all refine TX_fieldAddr_p rfl rfl rfl ?_
  with_unfolding_all refine TX_load_p rfl (MC_none (hO8.obj 1 rfl)) rfl ?_
  with_unfolding_all refine TX_fieldAddr_p rfl rfl rfl ?_
  with_unfolding_all refine TX_load_p rfl (MC_none (hO8.obj 0 rfl)) rfl ?_
  with_unfolding_all refine TX_cmp rfl rfl rfl ?_
  with_unfolding_all refine TX_move rfl ?_
  with_unfolding_all refine TX_guard_f rfl rfl (fun hc15 => ?_) (fun hc15 => ?_)
  · skip
    replace h11 := or_t hc15 h11
    obtain rfl := some_s h11
    with_unfolding_all refine TX_guard_no_f rfl rfl hc15 ?_
    with_unfolding_all refine TX_guard_no_f rfl rfl hc15 ?_
    with_unfolding_all refine TX_guard_no_f rfl rfl hc15 ?_
    with_unfolding_all refine TX_guard_no_f rfl rfl hc15 ?_
    with_unfolding_all refine TX_guard_no_f rfl rfl hc15 ?_
    with_unfolding_all refine TX_guard_no_f rfl rfl hc15 ?_
    with_unfolding_all refine TX_guard_no_f rfl rfl hc15 ?_
    with_unfolding_all refine TX_guard_no_f rfl rfl hc15 ?_
    with_unfolding_all refine TX_guard_no_f rfl rfl hc15 ?_
    with_unfolding_all refine TX_guard_no_f rfl rfl hc15 ?_
    with_unfolding_all refine TX_pick_t rfl hc15 rfl ?_
    with_unfolding_all refine TX_move rfl ?_
    replace h13 := or_t rfl h13
    obtain rfl := some_s h13
    with_unfolding_all refine TX_guard_no_f rfl rfl rfl ?_
    with_unfolding_all refine TX_guard_no_f rfl rfl rfl ?_
    with_unfolding_all refine TX_guard_no_f rfl rfl rfl ?_
    with_unfolding_all refine TX_guard_no_f rfl rfl rfl ?_
    with_unfolding_all refine TX_guard_no_f rfl rfl rfl ?_
    with_unfolding_all refine TX_pick_t rfl rfl rfl ?_
    with_unfolding_all refine TX_assign rfl ?_
    with_unfolding_all refine TX_nil ?_
    with_unfolding_all refine thenQ_normal ?_
    with_unfolding_all refine TE_ret ?_
    obtain rfl := some_s hF
    exact done_any (vs := [.bool (true)]) (.inr rfl) rfl (resR_tmp rfl resR_nil) ⟨rfl, hO8.ext⟩
  · skip
    replace h11 := or_f hc15 h11
    with_unfolding_all refine TX_fieldAddr_p rfl rfl rfl ?_
    with_unfolding_all refine TX_guard_yes rfl rfl hc15 ?_
    with_unfolding_all refine TX_load_p rfl (MC_none (hO8.obj 1 rfl)) rfl ?_
    with_unfolding_all refine TX_guard_yes rfl rfl hc15 ?_
    with_unfolding_all refine TX_fieldAddr_p rfl rfl rfl ?_
    with_unfolding_all refine TX_guard_yes rfl rfl hc15 ?_
    with_unfolding_all refine TX_load_p rfl (MC_none (hO8.obj 0 rfl)) rfl ?_
    with_unfolding_all refine TX_guard_yes rfl rfl hc15 ?_
    with_unfolding_all refine TX_cmp rfl rfl rfl ?_
    with_unfolding_all refine TX_guard_yes rfl rfl hc15 ?_
    with_unfolding_all refine TX_fieldAddr_p rfl rfl rfl ?_
    with_unfolding_all refine TX_guard_yes rfl rfl hc15 ?_
    with_unfolding_all refine TX_load_p rfl (MC_none (hO8.obj 1 rfl)) rfl ?_
    with_unfolding_all refine TX_guard_yes rfl rfl hc15 ?_
    with_unfolding_all refine TX_fieldAddr_p rfl rfl rfl ?_
    with_unfolding_all refine TX_guard_yes rfl rfl hc15 ?_
    with_unfolding_all refine TX_load_p rfl (MC_none (hO8.obj 0 rfl)) rfl ?_
    with_unfolding_all refine TX_guard_yes rfl rfl hc15 ?_
    with_unfolding_all refine TX_cmp rfl rfl rfl ?_
    with_unfolding_all refine TX_guard_yes rfl rfl hc15 ?_
    with_unfolding_all refine TX_beq rfl rfl rfl ?_
    with_unfolding_all refine TX_pick_f rfl hc15 rfl ?_
    obtain rfl := some_s h11
    with_unfolding_all refine TX_move rfl ?_
    with_unfolding_all refine TX_guard_f rfl rfl (fun hc16 => ?_) (fun hc16 => ?_)
    · skip
      replace h13 := or_t hc16 h13
      obtain rfl := some_s h13
      with_unfolding_all refine TX_guard_no_f rfl rfl hc16 ?_
      with_unfolding_all refine TX_guard_no_f rfl rfl hc16 ?_
      with_unfolding_all refine TX_guard_no_f rfl rfl hc16 ?_
      with_unfolding_all refine TX_guard_no_f rfl rfl hc16 ?_
      with_unfolding_all refine TX_pick_t rfl hc16 rfl ?_
      with_unfolding_all refine TX_assign rfl ?_
      with_unfolding_all refine TX_nil ?_
      with_unfolding_all refine thenQ_normal ?_
      with_unfolding_all refine TE_ret ?_
      obtain rfl := some_s hF
      exact done_any (vs := [.bool (true)]) (.inr rfl) rfl (resR_tmp rfl resR_nil) ⟨rfl, hO8.ext⟩
    · skip
      replace h13 := or_f hc16 h13
      with_unfolding_all refine TX_fieldAddr_p rfl rfl rfl ?_
      with_unfolding_all refine TX_guard_yes rfl rfl hc16 ?_
      with_unfolding_all refine TX_load_p rfl (MC_none (hO8.obj 1 rfl)) rfl ?_
      with_unfolding_all refine TX_guard_yes rfl rfl hc16 ?_
      with_unfolding_all refine TX_fieldAddr_p rfl rfl rfl ?_
      with_unfolding_all refine TX_guard_yes rfl rfl hc16 ?_
      with_unfolding_all refine TX_load_p rfl (MC_none (hO8.obj 0 rfl)) rfl ?_
      with_unfolding_all refine TX_guard_yes rfl rfl hc16 ?_
      with_unfolding_all refine TX_cmp rfl rfl rfl ?_
      with_unfolding_all refine TX_pick_f rfl hc16 rfl ?_
      obtain rfl := some_s h13
      with_unfolding_all refine TX_assign rfl ?_
      with_unfolding_all refine TX_nil ?_
      with_unfolding_all refine thenQ_normal ?_
      with_unfolding_all refine TE_ret ?_
      obtain rfl := some_s hF
      exact done_any (vs := [.bool ((x0_.From == x1_.From))]) (.inr rfl) rfl (resR_tmp rfl resR_nil) ⟨rfl, hO8.ext⟩
theorem match_Ordered_1_1_1_ok {x0_ : match_Span} {c0_ : match_Span} {y : Bool} (hF : F.match_Ordered_1_1_1 x0_ c0_ = some y) {v0_ : AV} {σ : Mem} (h0_ : e_match_Span.rel v0_ x0_) {d0_ : Nat} {w0_ : AV} (k0_ : e_match_Span.rel w0_ c0_) (m0_ : σ[d0_]? = some (.cells w0_.cells)) :
    CallE Try.prog 68 [v0_, .ptr d0_ 0] σ (fun v σ' => eB.rel v y ∧ Ext σ σ') := by
  unfold F.match_Ordered_1_1_1 at hF
  obtain rfl := h0_
  obtain rfl := k0_
  refine CallE_of Try.func68 rfl Try.ntmps68 (by simp) ?_
  have hO0 := Own.start σ
  with_unfolding_all refine TE_seq ?_
  with_unfolding_all refine TE_seqY ?_
  have hM1 := MB_none σ
  with_unfolding_all refine TY_box hO0 hM1 rfl rfl ?_
  rintro id2 s3 (hO4 : Own σ [] s3 [.obj id2 [.int .i64 (x0_.From), .int .i64 (x0_.To), .int .i64 (x0_.Part), .int .i64 (x0_.Weight)]]) hM5
  with_unfolding_all refine TX_assign rfl ?_
  with_unfolding_all refine TX_nil ?_
  with_unfolding_all refine thenQ_normal ?_
  with_unfolding_all refine TE_seq ?_
  obtain ⟨x6, h7, hF⟩ := bind_s hF
  with_unfolding_all refine TE_seqY ?_
  have hM8 := MB_none s3
  with_unfolding_all refine TX_load_p rfl (MC_none (hO4.obj 0 rfl)) rfl ?_
  with_unfolding_all refine TX_load_p rfl (MC_none (hO4.get0 m0_ (List.not_mem_nil))) rfl ?_
  have hc9 : CallE Try.prog 69 [.agg [.int .i64 (x0_.From), .int .i64 (x0_.To), .int .i64 (x0_.Part), .int .i64 (x0_.Weight)], .agg [.int .i64 (c0_.From), .int .i64 (c0_.To), .int .i64 (c0_.Part), .int .i64 (c0_.Weight)]] s3 _ := match_inOrder_ok h7 rfl rfl
  with_unfolding_all refine TY_call hM8 rfl en69 hc9 ?_
  intro v10 s14 hv11 hX12 hM13
  have hO15 := hO4.ext_call hX12
  obtain rfl := hv11
  with_unfolding_all refine TX_not rfl ?_
  with_unfolding_all refine TX_assign rfl ?_
  with_unfolding_all refine TX_nil ?_
  with_unfolding_all refine thenQ_normal ?_
  with_unfolding_all refine TE_ret ?_
  obtain rfl := some_s hF
  exact done_any (vs := [.bool ((!x6))]) (.inr rfl) rfl (resR_tmp rfl resR_nil) ⟨rfl, hO15.ext⟩
theorem match_Ordered_1_1_ok {x0_ : match_Span} {c0_ : match_Match} {y : Bool} (hF : F.match_Ordered_1_1 x0_ c0_ = some y) {v0_ : AV} {σ : Mem} (h0_ : e_match_Span.rel v0_ x0_) {d0_ : Nat} {w0_ : AV} (k0_ : e_match_Match.rel w0_ c0_) (m0_ : σ[d0_]? = some (.cells w0_.cells)) :
    CallE Try.prog 67 [v0_, .ptr d0_ 0] σ (fun v σ' => eB.rel v y ∧ Ext σ σ') := by
  unfold F.match_Ordered_1_1 at hF
  obtain rfl := h0_
  obtain ⟨u1, u3, rfl, h2, h4⟩ := k0_
  refine CallE_of Try.func67 rfl Try.ntmps67 (by simp) ?_
  have hO0 := Own.start σ
  with_unfolding_all refine TE_seq ?_
  with_unfolding_all refine TE_seqY ?_
  have hM5 := MB_none σ
  with_unfolding_all refine TY_box hO0 hM5 rfl rfl ?_
  rintro id6 s7 (hO8 : Own σ [] s7 [.obj id6 [.int .i64 (x0_.From), .int .i64 (x0_.To), .int .i64 (x0_.Part), .int .i64 (x0_.Weight)]]) hM9
  with_unfolding_all refine TX_assign rfl ?_
  with_unfolding_all refine TX_nil ?_
  with_unfolding_all refine thenQ_normal ?_
  with_unfolding_all refine TE_seq ?_
  obtain ⟨x10, h11, hF⟩ := bind_s hF
  with_unfolding_all refine TE_seqY ?_
  have hM12 := MB_none s7
  with_unfolding_all refine TX_fieldAddr_p rfl rfl rfl ?_
  with_unfolding_all refine TX_load_p rfl (MC_none (hO8.get0 m0_ (List.not_mem_nil))) rfl ?_
  with_unfolding_all refine TX_makeFunc rfl rfl ?_
  have hc19 : CallE Try.prog 57 [u1, .fn (.func 68) [] [.ptr id6 0]] s7 _ := slices_ContainsFunc_match_Span_match_Span_ok h11 h2 ⟨68, [], [.ptr id6 0], rfl, en68, fun _ hX13 v14 x15 y17 h16 hy18 => match_Ordered_1_1_1_ok hy18 h16 rfl (hX13.get (hO8.obj 0 rfl))⟩
  with_unfolding_all refine TY_call hM12 rfl en57 hc19 ?_
  intro v20 s24 hv21 hX22 hM23
  have hO25 := hO8.ext_call hX22
  obtain rfl := hv21
  with_unfolding_all refine TX_not rfl ?_
  with_unfolding_all refine TX_assign rfl ?_
  with_unfolding_all refine TX_nil ?_
  with_unfolding_all refine thenQ_normal ?_
  with_unfolding_all refine TE_ret ?_
  obtain rfl := some_s hF
  exact done_any (vs := [.bool ((!x10))]) (.inr rfl) rfl (resR_tmp rfl resR_nil) ⟨rfl, hO25.ext⟩
end Go.Proofs.Ytihbdelgoapeoaa.K
