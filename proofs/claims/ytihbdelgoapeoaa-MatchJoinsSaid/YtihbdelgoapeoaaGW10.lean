/- Walks. Printed. -/
import Derived.Test.YtihbdelgoapeoaaGW9
namespace Go.Proofs.Ytihbdelgoapeoaa.K
open Go Go.RowKit F
set_option maxRecDepth 100000
set_option maxHeartbeats 4000000
set_option linter.unusedVariables false
set_option linter.unusedSimpArgs false
theorem law12_MatchLimits_ok {x0_ : Int} {x1_ : Int} {y : Bool} (hF : F.law12_MatchLimits x0_ x1_ = some y) {v0_ : AV} {v1_ : AV} {σ : Mem} (h0_ : (eI .i64).rel v0_ x0_) (h1_ : (eI .i64).rel v1_ x1_)  :
    CallE Try.prog 5 [v0_, v1_] σ (fun v σ' => eB.rel v y ∧ Ext σ σ') := by
  unfold F.law12_MatchLimits at hF
  obtain rfl := h0_
  obtain rfl := h1_
  refine CallE_of Try.func5 rfl Try.ntmps5 (by simp) ?_
  have hO0 := Own.start σ
  with_unfolding_all refine TE_seq ?_
  with_unfolding_all refine TE_seqY ?_
  have hM1 := MB_none σ
  with_unfolding_all refine TX_assign rfl ?_
  with_unfolding_all refine TX_nil ?_
  with_unfolding_all refine thenQ_normal ?_
  with_unfolding_all refine TE_seq ?_
  with_unfolding_all refine TE_seq ?_
  obtain ⟨x2, h3, hF⟩ := bind_s hF
  with_unfolding_all refine TE_seqY ?_
  have hM4 := MB_none σ
  have hc5 : CallE Try.prog 14 [] σ _ := law12_head_ok h3 
  with_unfolding_all refine TY_call hM4 rfl en14 hc5 ?_
  intro v6 s10 hv7 hX8 hM9
  have hO11 := hO0.ext_call hX8
  obtain rfl := hv7
  with_unfolding_all refine TX_not rfl ?_
  with_unfolding_all refine TX_nil ?_
  with_unfolding_all refine thenQ_normal ?_
  with_unfolding_all refine TE_cond rfl (fun hc12 => ?_) (fun hc12 => ?_)
  · skip
    replace hF := ite_t hc12 hF
    with_unfolding_all refine TE_seq ?_
    with_unfolding_all refine TE_seqY ?_
    have hM13 := MB_none s10
    with_unfolding_all refine TX_assign rfl ?_
    with_unfolding_all refine TX_nil ?_
    with_unfolding_all refine thenQ_normal ?_
    with_unfolding_all refine TE_ret ?_
    with_unfolding_all refine thenQ_ret ?_
    obtain rfl := some_s hF
    exact done_any (vs := [.bool (false)]) (.inr rfl) rfl (resR_tmp rfl resR_nil) ⟨rfl, hO11.ext⟩
  · skip
    replace hF := ite_f hc12 hF
    with_unfolding_all refine TE_skip ?_
    with_unfolding_all refine thenQ_normal ?_
    with_unfolding_all refine TE_seq ?_
    with_unfolding_all refine TE_seqY ?_
    have hM14 := MB_none s10
    with_unfolding_all refine TX_move rfl ?_
    with_unfolding_all refine TX_bit rfl rfl rfl ?_
    with_unfolding_all refine TX_assign rfl ?_
    with_unfolding_all refine TX_nil ?_
    with_unfolding_all refine thenQ_normal ?_
    with_unfolding_all refine TE_seq ?_
    with_unfolding_all refine TE_seqY ?_
    have hM15 := MB_none s10
    with_unfolding_all refine TX_move rfl ?_
    with_unfolding_all refine TX_bit rfl rfl rfl ?_
    with_unfolding_all refine TX_assign rfl ?_
    with_unfolding_all refine TX_nil ?_
    with_unfolding_all refine thenQ_normal ?_
    with_unfolding_all refine TE_seq ?_
    with_unfolding_all refine TE_seqY ?_
    have hM16 := MB_none s10
    with_unfolding_all refine TX_assign rfl ?_
    with_unfolding_all refine TX_nil ?_
    with_unfolding_all refine thenQ_normal ?_
    with_unfolding_all refine TE_seq ?_
    obtain ⟨x17, h18, hF⟩ := bind_s hF
    obtain ⟨x19, h20, hF⟩ := bind_s hF
    obtain ⟨x21, h22, hF⟩ := bind_s hF
    with_unfolding_all refine TE_seqY ?_
    have hM23 := MB_none s10
    with_unfolding_all refine TX_move rfl ?_
    with_unfolding_all refine TX_move rfl ?_
    have hc24 : CallE Try.prog 25 [.int .i64 ((band .i64 x0_ 511))] s10 _ := law12_MatchLimits_1_ok h18 rfl
    with_unfolding_all refine TY_call hM23 rfl en25 hc24 ?_
    intro v25 s29 hv26 hX27 hM28
    have hO30 := hO11.ext_call hX27
    with_unfolding_all refine TX_move rfl ?_
    with_unfolding_all refine TX_move rfl ?_
    have hc31 : CallE Try.prog 25 [.int .i64 ((band .i64 x1_ 31))] s29 _ := law12_MatchLimits_1_ok h20 rfl
    with_unfolding_all refine TY_call hM28 rfl en25 hc31 ?_
    intro v32 s36 hv33 hX34 hM35
    have hO37 := hO30.ext_call hX34
    have hc38 : CallE Try.prog 18 [v25, v32] s36 _ := match_Or_ok h22 hv26 hv33
    with_unfolding_all refine TY_call hM35 rfl en18 hc38 ?_
    intro v39 s43 hv40 hX41 hM42
    have hO44 := hO37.ext_call hX41
    obtain ⟨v45, v46, rfl, h47, h48⟩ := hv40
    obtain rfl := h48
    with_unfolding_all refine TX_move rfl ?_
    with_unfolding_all refine TX_extract rfl rfl ?_
    with_unfolding_all refine TX_extract rfl rfl ?_
    with_unfolding_all refine TX_assign rfl ?_
    with_unfolding_all refine TX_assign rfl ?_
    with_unfolding_all refine TX_nil ?_
    with_unfolding_all refine thenQ_normal ?_
    with_unfolding_all refine TE_seq ?_
    obtain ⟨x49, h50, hF⟩ := bind_s hF
    obtain ⟨x51, h52, hF⟩ := bind_s hF
    obtain ⟨x53, h54, hF⟩ := bind_s hF
    with_unfolding_all refine TE_seqY ?_
    have hM55 := MB_none s43
    with_unfolding_all refine TX_move rfl ?_
    with_unfolding_all refine TX_move rfl ?_
    have hc56 : CallE Try.prog 25 [.int .i64 ((band .i64 x0_ 511))] s43 _ := law12_MatchLimits_1_ok h50 rfl
    with_unfolding_all refine TY_call hM55 rfl en25 hc56 ?_
    intro v57 s61 hv58 hX59 hM60
    have hO62 := hO44.ext_call hX59
    with_unfolding_all refine TX_move rfl ?_
    with_unfolding_all refine TX_move rfl ?_
    have hc63 : CallE Try.prog 25 [.int .i64 ((band .i64 x1_ 31))] s61 _ := law12_MatchLimits_1_ok h52 rfl
    with_unfolding_all refine TY_call hM60 rfl en25 hc63 ?_
    intro v64 s68 hv65 hX66 hM67
    have hO69 := hO62.ext_call hX66
    have hc70 : CallE Try.prog 19 [v57, v64] s68 _ := match_And_ok h54 hv58 hv65
    with_unfolding_all refine TY_call hM67 rfl en19 hc70 ?_
    intro v71 s75 hv72 hX73 hM74
    have hO76 := hO69.ext_call hX73
    obtain ⟨v77, v78, rfl, h79, h80⟩ := hv72
    obtain rfl := h80
    with_unfolding_all refine TX_move rfl ?_
    with_unfolding_all refine TX_extract rfl rfl ?_
    with_unfolding_all refine TX_extract rfl rfl ?_
    with_unfolding_all refine TX_assign rfl ?_
    with_unfolding_all refine TX_assign rfl ?_
    with_unfolding_all refine TX_nil ?_
    with_unfolding_all refine thenQ_normal ?_
    with_unfolding_all refine TE_seq ?_
    obtain ⟨x81, h82, hF⟩ := bind_s hF
    obtain ⟨x83, h84, hF⟩ := bind_s hF
    obtain ⟨x85, h86, hF⟩ := bind_s hF
    have hB87 : Bs [] s75 := Bs.nil _
    with_unfolding_all refine TE_drawY [] (by with_unfolding_all rfl) (by kernel_rfl) hB87 ?_
    have hM88 := MB_some hB87
    with_unfolding_all refine TX_move rfl ?_
    with_unfolding_all refine TY_make (E := e_match_Span) (zv := .agg [.int .i64 (0), .int .i64 (0), .int .i64 (0), .int .i64 (0)]) (za := (F.match_Span.mk 0 0 0 0)) hM88 rfl rfl rfl rfl rfl (by with_unfolding_all decide) (by with_unfolding_all decide) rfl rfl h82 ?_
    intro u89 h90
    with_unfolding_all refine TY_build [u89, .nils] rfl rfl rfl (by with_unfolding_all exact Fill.cons rfl (RS.cells h90) rfl (by with_unfolding_all exact Nat.le_of_ble_eq_true rfl) (Fill.nil _)) (by with_unfolding_all rfl) ?_
    with_unfolding_all refine TX_move rfl ?_
    with_unfolding_all refine TY_make (E := e_match_Span) (zv := .agg [.int .i64 (0), .int .i64 (0), .int .i64 (0), .int .i64 (0)]) (za := (F.match_Span.mk 0 0 0 0)) hM88 rfl rfl rfl rfl rfl (by with_unfolding_all decide) (by with_unfolding_all decide) rfl rfl h84 ?_
    intro u91 h92
    with_unfolding_all refine TY_build [u91, .nils] rfl rfl rfl (by with_unfolding_all exact Fill.cons rfl (RS.cells h92) rfl (by with_unfolding_all exact Nat.le_of_ble_eq_true rfl) (Fill.nil _)) (by with_unfolding_all rfl) ?_
    have h93 : All2 e_match_Match.rel ([.agg [u89, .nils], .agg [u91, .nils]] : List AV) ([(F.match_Match.mk x81 []), (F.match_Match.mk x83 [])] : (List match_Match)) := ⟨⟨u89, .nils, rfl, h90, (RS.nil e_match_Span)⟩, ⟨⟨u91, .nils, rfl, h92, (RS.nil e_match_Span)⟩, trivial⟩⟩
    with_unfolding_all refine TY_buildSlice rfl rfl rfl rfl rfl h93 rfl (by decide) (by with_unfolding_all exact Nat.le_of_ble_eq_true rfl) ?_
    have h94 : RS e_match_Match (.sl [.agg [u89, .nils], .agg [u91, .nils]] .full) ([(F.match_Match.mk x81 []), (F.match_Match.mk x83 [])] : (List match_Match)) := RS.of h93
    have hc95 : CallE Try.prog 20 [(.sl [.agg [u89, .nils], .agg [u91, .nils]] .full)] s75 _ := match_Not_ok h86 h94
    with_unfolding_all refine TY_call hM88 rfl en20 hc95 ?_
    intro v96 s100 hv97 hX98 hM99
    have hO101 := hO76.ext_call hX98
    obtain ⟨v102, v103, rfl, h104, h105⟩ := hv97
    obtain rfl := h105
    with_unfolding_all refine TX_move rfl ?_
    with_unfolding_all refine TX_extract rfl rfl ?_
    with_unfolding_all refine TX_extract rfl rfl ?_
    with_unfolding_all refine TX_assign rfl ?_
    with_unfolding_all refine TX_assign rfl ?_
    with_unfolding_all refine TX_nil ?_
    with_unfolding_all refine thenQ_normal ?_
    with_unfolding_all refine TE_seq ?_
    with_unfolding_all refine TE_seq ?_
    obtain ⟨r108, h109, hF⟩ := bind_s hF
    obtain ⟨r112, h113, hF⟩ := bind_s hF
    refine TE_cutQ (fun z => ∃ (s115 : Mem), Own σ [] s115 [] ∧ Le z ⟨fr 134 [(0, .int .i64 ((band .i64 x0_ 511))), (1, .int .i64 ((band .i64 x1_ 31))), (8, v77), (9, .int .i64 (x53.2)), (10, v102), (11, .int .i64 (x85.2)), (75, .bool (r112))], [], s115⟩) ?_ ?_
    · skip
      with_unfolding_all refine TE_seqY ?_
      have hM118 := MB_none s100
      with_unfolding_all refine TX_move rfl ?_
      with_unfolding_all refine TX_cmp rfl rfl rfl ?_
      with_unfolding_all refine TX_move rfl ?_
      with_unfolding_all refine TX_move rfl ?_
      with_unfolding_all refine TX_ari rfl rfl rfl ?_
      with_unfolding_all refine TX_cmp rfl rfl rfl ?_
      with_unfolding_all refine TX_bne rfl rfl rfl ?_
      with_unfolding_all refine TX_move rfl ?_
      with_unfolding_all refine TX_guard_f rfl rfl (fun hc119 => ?_) (fun hc119 => ?_)
      · skip
        replace h109 := ite_t hc119 h109
        obtain rfl := some_s h109
        with_unfolding_all refine TX_guard_no_f rfl rfl hc119 ?_
        with_unfolding_all refine TX_guard_no_f rfl rfl hc119 ?_
        with_unfolding_all refine TX_guard_un rfl rfl ?_
        with_unfolding_all refine TX_guard_un rfl rfl ?_
        with_unfolding_all refine TX_guard_un rfl rfl ?_
        with_unfolding_all refine TX_guard_un rfl rfl ?_
        with_unfolding_all refine TX_guard_un rfl rfl ?_
        with_unfolding_all refine TX_guard_un rfl rfl ?_
        with_unfolding_all refine TX_guard_no_f rfl rfl hc119 ?_
        with_unfolding_all refine TX_pick_t rfl hc119 rfl ?_
        with_unfolding_all refine TX_move rfl ?_
        replace h113 := ite_t rfl h113
        obtain rfl := some_s h113
        with_unfolding_all refine TX_guard_no_f rfl rfl rfl ?_
        with_unfolding_all refine TX_guard_no_f rfl rfl rfl ?_
        with_unfolding_all refine TX_guard_no_f rfl rfl rfl ?_
        with_unfolding_all refine TX_guard_un rfl rfl ?_
        with_unfolding_all refine TX_guard_un rfl rfl ?_
        with_unfolding_all refine TX_guard_no_f rfl rfl rfl ?_
        with_unfolding_all refine TX_pick_t rfl rfl rfl ?_
        with_unfolding_all refine TX_nil ?_
        exact joinQ_normal ⟨s100, (hO101.sub 0 rfl), (Le_fr ⟨rfl, ⟨rfl, ⟨rfl, ⟨rfl, ⟨rfl, ⟨rfl, ⟨rfl, trivial⟩⟩⟩⟩⟩⟩⟩)⟩
      · skip
        replace h109 := ite_f hc119 h109
        obtain ⟨r106, h107, h109⟩ := bind_s h109
        with_unfolding_all refine TX_move rfl ?_
        with_unfolding_all refine TX_guard_yes rfl rfl hc119 ?_
        with_unfolding_all refine TX_cmp rfl rfl rfl ?_
        with_unfolding_all refine TX_guard_yes rfl rfl hc119 ?_
        with_unfolding_all refine TX_move rfl ?_
        with_unfolding_all refine TX_guard_t rfl rfl (fun hc120 => ?_) (fun hc120 => ?_)
        · skip
          replace h107 := and_t hc120 h107
          with_unfolding_all refine TX_move rfl ?_
          with_unfolding_all refine TX_guard_yes rfl rfl hc120 ?_
          with_unfolding_all refine TY_len rfl rfl rfl rfl h47 rfl ?_
          with_unfolding_all refine TX_guard_yes rfl rfl hc120 ?_
          with_unfolding_all refine TX_move rfl ?_
          with_unfolding_all refine TX_guard_yes rfl rfl hc120 ?_
          with_unfolding_all refine TX_move rfl ?_
          with_unfolding_all refine TX_guard_yes rfl rfl hc120 ?_
          with_unfolding_all refine TX_ari rfl rfl rfl ?_
          with_unfolding_all refine TX_guard_yes rfl rfl hc120 ?_
          with_unfolding_all refine TX_cmp rfl rfl rfl ?_
          with_unfolding_all refine TX_guard_yes rfl rfl hc119 ?_
          with_unfolding_all refine TX_pick_t rfl hc120 rfl ?_
          obtain rfl := some_s h107
          with_unfolding_all refine TX_pick_f rfl hc119 rfl ?_
          obtain rfl := some_s h109
          with_unfolding_all refine TX_move rfl ?_
          with_unfolding_all refine TX_guard_f rfl rfl (fun hc121 => ?_) (fun hc121 => ?_)
          · skip
            replace h113 := ite_t hc121 h113
            obtain rfl := some_s h113
            with_unfolding_all refine TX_guard_no_f rfl rfl hc121 ?_
            with_unfolding_all refine TX_guard_no_f rfl rfl hc121 ?_
            with_unfolding_all refine TX_guard_un rfl rfl ?_
            with_unfolding_all refine TX_guard_un rfl rfl ?_
            with_unfolding_all refine TX_guard_no_f rfl rfl hc121 ?_
            with_unfolding_all refine TX_pick_t rfl hc121 rfl ?_
            with_unfolding_all refine TX_nil ?_
            exact joinQ_normal ⟨s100, (hO101.sub 0 rfl), (Le_fr ⟨rfl, ⟨rfl, ⟨rfl, ⟨rfl, ⟨rfl, ⟨rfl, ⟨rfl, trivial⟩⟩⟩⟩⟩⟩⟩)⟩
          · skip
            replace h113 := ite_f hc121 h113
            obtain ⟨r110, h111, h113⟩ := bind_s h113
            with_unfolding_all refine TX_move rfl ?_
            with_unfolding_all refine TX_guard_yes rfl rfl hc121 ?_
            with_unfolding_all refine TX_cmp rfl rfl rfl ?_
            with_unfolding_all refine TX_guard_yes rfl rfl hc121 ?_
            with_unfolding_all refine TX_move rfl ?_
            with_unfolding_all refine TX_guard_t rfl rfl (fun hc122 => ?_) (fun hc122 => ?_)
            · skip
              replace h111 := and_t hc122 h111
              with_unfolding_all refine TX_move rfl ?_
              with_unfolding_all refine TX_guard_yes rfl rfl hc122 ?_
              with_unfolding_all refine TX_cmp rfl rfl rfl ?_
              with_unfolding_all refine TX_guard_yes rfl rfl hc121 ?_
              with_unfolding_all refine TX_pick_t rfl hc122 rfl ?_
              obtain rfl := some_s h111
              with_unfolding_all refine TX_pick_f rfl hc121 rfl ?_
              obtain rfl := some_s h113
              with_unfolding_all refine TX_nil ?_
              exact joinQ_normal ⟨s100, (hO101.sub 0 rfl), (Le_fr ⟨rfl, ⟨rfl, ⟨rfl, ⟨rfl, ⟨rfl, ⟨rfl, ⟨rfl, trivial⟩⟩⟩⟩⟩⟩⟩)⟩
            · skip
              replace h111 := and_f hc122 h111
              obtain rfl := some_s h111
              with_unfolding_all refine TX_guard_no_t rfl rfl hc122 ?_
              with_unfolding_all refine TX_guard_yes rfl rfl hc121 ?_
              with_unfolding_all refine TX_pick_f rfl hc122 rfl ?_
              with_unfolding_all refine TX_pick_f rfl hc121 rfl ?_
              obtain rfl := some_s h113
              with_unfolding_all refine TX_nil ?_
              exact joinQ_normal ⟨s100, (hO101.sub 0 rfl), (Le_fr ⟨rfl, ⟨rfl, ⟨rfl, ⟨rfl, ⟨rfl, ⟨rfl, ⟨rfl, trivial⟩⟩⟩⟩⟩⟩⟩)⟩
        · skip
          replace h107 := and_f hc120 h107
          obtain rfl := some_s h107
          with_unfolding_all refine TX_guard_no_t rfl rfl hc120 ?_
          with_unfolding_all refine TX_guard_no_t rfl rfl hc120 ?_
          with_unfolding_all refine TX_guard_no_t rfl rfl hc120 ?_
          with_unfolding_all refine TX_guard_no_t rfl rfl hc120 ?_
          with_unfolding_all refine TX_guard_no_t rfl rfl hc120 ?_
          with_unfolding_all refine TX_guard_yes rfl rfl hc119 ?_
          with_unfolding_all refine TX_pick_f rfl hc120 rfl ?_
          with_unfolding_all refine TX_pick_f rfl hc119 rfl ?_
          obtain rfl := some_s h109
          with_unfolding_all refine TX_move rfl ?_
          replace h113 := ite_f rfl h113
          obtain ⟨r110, h111, h113⟩ := bind_s h113
          with_unfolding_all refine TX_guard_yes rfl rfl rfl ?_
          with_unfolding_all refine TX_move rfl ?_
          with_unfolding_all refine TX_guard_yes rfl rfl rfl ?_
          with_unfolding_all refine TX_cmp rfl rfl rfl ?_
          with_unfolding_all refine TX_guard_yes rfl rfl rfl ?_
          with_unfolding_all refine TX_move rfl ?_
          with_unfolding_all refine TX_guard_t rfl rfl (fun hc123 => ?_) (fun hc123 => ?_)
          · skip
            replace h111 := and_t hc123 h111
            with_unfolding_all refine TX_move rfl ?_
            with_unfolding_all refine TX_guard_yes rfl rfl hc123 ?_
            with_unfolding_all refine TX_cmp rfl rfl rfl ?_
            with_unfolding_all refine TX_guard_yes rfl rfl rfl ?_
            with_unfolding_all refine TX_pick_t rfl hc123 rfl ?_
            obtain rfl := some_s h111
            with_unfolding_all refine TX_pick_f rfl rfl rfl ?_
            obtain rfl := some_s h113
            with_unfolding_all refine TX_nil ?_
            exact joinQ_normal ⟨s100, (hO101.sub 0 rfl), (Le_fr ⟨rfl, ⟨rfl, ⟨rfl, ⟨rfl, ⟨rfl, ⟨rfl, ⟨rfl, trivial⟩⟩⟩⟩⟩⟩⟩)⟩
          · skip
            replace h111 := and_f hc123 h111
            obtain rfl := some_s h111
            with_unfolding_all refine TX_guard_no_t rfl rfl hc123 ?_
            with_unfolding_all refine TX_guard_yes rfl rfl rfl ?_
            with_unfolding_all refine TX_pick_f rfl hc123 rfl ?_
            with_unfolding_all refine TX_pick_f rfl rfl rfl ?_
            obtain rfl := some_s h113
            with_unfolding_all refine TX_nil ?_
            exact joinQ_normal ⟨s100, (hO101.sub 0 rfl), (Le_fr ⟨rfl, ⟨rfl, ⟨rfl, ⟨rfl, ⟨rfl, ⟨rfl, ⟨rfl, trivial⟩⟩⟩⟩⟩⟩⟩)⟩
    · skip
      rintro zj114 ⟨s115, hO116, hz117⟩
      with_unfolding_all refine thenQ_normal ?_
      refine TE_pre hz117 ?_
      with_unfolding_all refine TE_cond rfl (fun hc124 => ?_) (fun hc124 => ?_)
      · skip
        replace hF := ite_t hc124 hF
        with_unfolding_all refine TE_seq ?_
        with_unfolding_all refine TE_seqY ?_
        have hM125 := MB_none s115
        with_unfolding_all refine TX_assign rfl ?_
        with_unfolding_all refine TX_nil ?_
        with_unfolding_all refine thenQ_normal ?_
        with_unfolding_all refine TE_ret ?_
        with_unfolding_all refine thenQ_ret ?_
        obtain rfl := some_s hF
        exact done_any (vs := [.bool (false)]) (.inr rfl) rfl (resR_tmp rfl resR_nil) ⟨rfl, hO116.ext⟩
      · skip
        replace hF := ite_f hc124 hF
        with_unfolding_all refine TE_skip ?_
        with_unfolding_all refine thenQ_normal ?_
        with_unfolding_all refine TE_seq ?_
        with_unfolding_all refine TE_seq ?_
        obtain ⟨r128, h129, hF⟩ := bind_s hF
        obtain ⟨r132, h133, hF⟩ := bind_s hF
        refine TE_cutQ (fun z => ∃ (s135 : Mem), Own σ [] s135 [] ∧ Le z ⟨fr 134 [(0, .int .i64 ((band .i64 x0_ 511))), (1, .int .i64 ((band .i64 x1_ 31))), (10, v102), (11, .int .i64 (x85.2)), (102, .bool (r132))], [], s135⟩) ?_ ?_
        · skip
          with_unfolding_all refine TE_seqY ?_
          have hM138 := MB_none s115
          with_unfolding_all refine TX_move rfl ?_
          with_unfolding_all refine TX_cmp rfl rfl rfl ?_
          with_unfolding_all refine TX_move rfl ?_
          with_unfolding_all refine TX_move rfl ?_
          with_unfolding_all refine TX_ari rfl rfl rfl ?_
          with_unfolding_all refine TX_cmp rfl rfl rfl ?_
          with_unfolding_all refine TX_bne rfl rfl rfl ?_
          with_unfolding_all refine TX_move rfl ?_
          with_unfolding_all refine TX_guard_f rfl rfl (fun hc139 => ?_) (fun hc139 => ?_)
          · skip
            replace h129 := ite_t hc139 h129
            obtain rfl := some_s h129
            with_unfolding_all refine TX_guard_no_f rfl rfl hc139 ?_
            with_unfolding_all refine TX_guard_no_f rfl rfl hc139 ?_
            with_unfolding_all refine TX_guard_un rfl rfl ?_
            with_unfolding_all refine TX_guard_un rfl rfl ?_
            with_unfolding_all refine TX_guard_un rfl rfl ?_
            with_unfolding_all refine TX_guard_un rfl rfl ?_
            with_unfolding_all refine TX_guard_un rfl rfl ?_
            with_unfolding_all refine TX_guard_un rfl rfl ?_
            with_unfolding_all refine TX_guard_no_f rfl rfl hc139 ?_
            with_unfolding_all refine TX_pick_t rfl hc139 rfl ?_
            with_unfolding_all refine TX_move rfl ?_
            replace h133 := ite_t rfl h133
            obtain rfl := some_s h133
            with_unfolding_all refine TX_guard_no_f rfl rfl rfl ?_
            with_unfolding_all refine TX_guard_no_f rfl rfl rfl ?_
            with_unfolding_all refine TX_guard_no_f rfl rfl rfl ?_
            with_unfolding_all refine TX_guard_un rfl rfl ?_
            with_unfolding_all refine TX_guard_un rfl rfl ?_
            with_unfolding_all refine TX_guard_no_f rfl rfl rfl ?_
            with_unfolding_all refine TX_pick_t rfl rfl rfl ?_
            with_unfolding_all refine TX_nil ?_
            exact joinQ_normal ⟨s115, (hO116.sub 0 rfl), (Le_fr ⟨rfl, ⟨rfl, ⟨rfl, ⟨rfl, ⟨rfl, trivial⟩⟩⟩⟩⟩)⟩
          · skip
            replace h129 := ite_f hc139 h129
            obtain ⟨r126, h127, h129⟩ := bind_s h129
            with_unfolding_all refine TX_move rfl ?_
            with_unfolding_all refine TX_guard_yes rfl rfl hc139 ?_
            with_unfolding_all refine TX_cmp rfl rfl rfl ?_
            with_unfolding_all refine TX_guard_yes rfl rfl hc139 ?_
            with_unfolding_all refine TX_move rfl ?_
            with_unfolding_all refine TX_guard_t rfl rfl (fun hc140 => ?_) (fun hc140 => ?_)
            · skip
              replace h127 := and_t hc140 h127
              with_unfolding_all refine TX_move rfl ?_
              with_unfolding_all refine TX_guard_yes rfl rfl hc140 ?_
              with_unfolding_all refine TY_len rfl rfl rfl rfl h79 rfl ?_
              with_unfolding_all refine TX_guard_yes rfl rfl hc140 ?_
              with_unfolding_all refine TX_move rfl ?_
              with_unfolding_all refine TX_guard_yes rfl rfl hc140 ?_
              with_unfolding_all refine TX_move rfl ?_
              with_unfolding_all refine TX_guard_yes rfl rfl hc140 ?_
              with_unfolding_all refine TX_ari rfl rfl rfl ?_
              with_unfolding_all refine TX_guard_yes rfl rfl hc140 ?_
              with_unfolding_all refine TX_cmp rfl rfl rfl ?_
              with_unfolding_all refine TX_guard_yes rfl rfl hc139 ?_
              with_unfolding_all refine TX_pick_t rfl hc140 rfl ?_
              obtain rfl := some_s h127
              with_unfolding_all refine TX_pick_f rfl hc139 rfl ?_
              obtain rfl := some_s h129
              with_unfolding_all refine TX_move rfl ?_
              with_unfolding_all refine TX_guard_f rfl rfl (fun hc141 => ?_) (fun hc141 => ?_)
              · skip
                replace h133 := ite_t hc141 h133
                obtain rfl := some_s h133
                with_unfolding_all refine TX_guard_no_f rfl rfl hc141 ?_
                with_unfolding_all refine TX_guard_no_f rfl rfl hc141 ?_
                with_unfolding_all refine TX_guard_un rfl rfl ?_
                with_unfolding_all refine TX_guard_un rfl rfl ?_
                with_unfolding_all refine TX_guard_no_f rfl rfl hc141 ?_
                with_unfolding_all refine TX_pick_t rfl hc141 rfl ?_
                with_unfolding_all refine TX_nil ?_
                exact joinQ_normal ⟨s115, (hO116.sub 0 rfl), (Le_fr ⟨rfl, ⟨rfl, ⟨rfl, ⟨rfl, ⟨rfl, trivial⟩⟩⟩⟩⟩)⟩
              · skip
                replace h133 := ite_f hc141 h133
                obtain ⟨r130, h131, h133⟩ := bind_s h133
                with_unfolding_all refine TX_move rfl ?_
                with_unfolding_all refine TX_guard_yes rfl rfl hc141 ?_
                with_unfolding_all refine TX_cmp rfl rfl rfl ?_
                with_unfolding_all refine TX_guard_yes rfl rfl hc141 ?_
                with_unfolding_all refine TX_move rfl ?_
                with_unfolding_all refine TX_guard_t rfl rfl (fun hc142 => ?_) (fun hc142 => ?_)
                · skip
                  replace h131 := and_t hc142 h131
                  with_unfolding_all refine TX_move rfl ?_
                  with_unfolding_all refine TX_guard_yes rfl rfl hc142 ?_
                  with_unfolding_all refine TX_cmp rfl rfl rfl ?_
                  with_unfolding_all refine TX_guard_yes rfl rfl hc141 ?_
                  with_unfolding_all refine TX_pick_t rfl hc142 rfl ?_
                  obtain rfl := some_s h131
                  with_unfolding_all refine TX_pick_f rfl hc141 rfl ?_
                  obtain rfl := some_s h133
                  with_unfolding_all refine TX_nil ?_
                  exact joinQ_normal ⟨s115, (hO116.sub 0 rfl), (Le_fr ⟨rfl, ⟨rfl, ⟨rfl, ⟨rfl, ⟨rfl, trivial⟩⟩⟩⟩⟩)⟩
                · skip
                  replace h131 := and_f hc142 h131
                  obtain rfl := some_s h131
                  with_unfolding_all refine TX_guard_no_t rfl rfl hc142 ?_
                  with_unfolding_all refine TX_guard_yes rfl rfl hc141 ?_
                  with_unfolding_all refine TX_pick_f rfl hc142 rfl ?_
                  with_unfolding_all refine TX_pick_f rfl hc141 rfl ?_
                  obtain rfl := some_s h133
                  with_unfolding_all refine TX_nil ?_
                  exact joinQ_normal ⟨s115, (hO116.sub 0 rfl), (Le_fr ⟨rfl, ⟨rfl, ⟨rfl, ⟨rfl, ⟨rfl, trivial⟩⟩⟩⟩⟩)⟩
            · skip
              replace h127 := and_f hc140 h127
              obtain rfl := some_s h127
              with_unfolding_all refine TX_guard_no_t rfl rfl hc140 ?_
              with_unfolding_all refine TX_guard_no_t rfl rfl hc140 ?_
              with_unfolding_all refine TX_guard_no_t rfl rfl hc140 ?_
              with_unfolding_all refine TX_guard_no_t rfl rfl hc140 ?_
              with_unfolding_all refine TX_guard_no_t rfl rfl hc140 ?_
              with_unfolding_all refine TX_guard_yes rfl rfl hc139 ?_
              with_unfolding_all refine TX_pick_f rfl hc140 rfl ?_
              with_unfolding_all refine TX_pick_f rfl hc139 rfl ?_
              obtain rfl := some_s h129
              with_unfolding_all refine TX_move rfl ?_
              replace h133 := ite_f rfl h133
              obtain ⟨r130, h131, h133⟩ := bind_s h133
              with_unfolding_all refine TX_guard_yes rfl rfl rfl ?_
              with_unfolding_all refine TX_move rfl ?_
              with_unfolding_all refine TX_guard_yes rfl rfl rfl ?_
              with_unfolding_all refine TX_cmp rfl rfl rfl ?_
              with_unfolding_all refine TX_guard_yes rfl rfl rfl ?_
              with_unfolding_all refine TX_move rfl ?_
              with_unfolding_all refine TX_guard_t rfl rfl (fun hc143 => ?_) (fun hc143 => ?_)
              · skip
                replace h131 := and_t hc143 h131
                with_unfolding_all refine TX_move rfl ?_
                with_unfolding_all refine TX_guard_yes rfl rfl hc143 ?_
                with_unfolding_all refine TX_cmp rfl rfl rfl ?_
                with_unfolding_all refine TX_guard_yes rfl rfl rfl ?_
                with_unfolding_all refine TX_pick_t rfl hc143 rfl ?_
                obtain rfl := some_s h131
                with_unfolding_all refine TX_pick_f rfl rfl rfl ?_
                obtain rfl := some_s h133
                with_unfolding_all refine TX_nil ?_
                exact joinQ_normal ⟨s115, (hO116.sub 0 rfl), (Le_fr ⟨rfl, ⟨rfl, ⟨rfl, ⟨rfl, ⟨rfl, trivial⟩⟩⟩⟩⟩)⟩
              · skip
                replace h131 := and_f hc143 h131
                obtain rfl := some_s h131
                with_unfolding_all refine TX_guard_no_t rfl rfl hc143 ?_
                with_unfolding_all refine TX_guard_yes rfl rfl rfl ?_
                with_unfolding_all refine TX_pick_f rfl hc143 rfl ?_
                with_unfolding_all refine TX_pick_f rfl rfl rfl ?_
                obtain rfl := some_s h133
                with_unfolding_all refine TX_nil ?_
                exact joinQ_normal ⟨s115, (hO116.sub 0 rfl), (Le_fr ⟨rfl, ⟨rfl, ⟨rfl, ⟨rfl, ⟨rfl, trivial⟩⟩⟩⟩⟩)⟩
        · skip
          rintro zj134 ⟨s135, hO136, hz137⟩
          with_unfolding_all refine thenQ_normal ?_
          refine TE_pre hz137 ?_
          with_unfolding_all refine TE_cond rfl (fun hc144 => ?_) (fun hc144 => ?_)
          · skip
            replace hF := ite_t hc144 hF
            with_unfolding_all refine TE_seq ?_
            with_unfolding_all refine TE_seqY ?_
            have hM145 := MB_none s135
            with_unfolding_all refine TX_assign rfl ?_
            with_unfolding_all refine TX_nil ?_
            with_unfolding_all refine thenQ_normal ?_
            with_unfolding_all refine TE_ret ?_
            with_unfolding_all refine thenQ_ret ?_
            obtain rfl := some_s hF
            exact done_any (vs := [.bool (false)]) (.inr rfl) rfl (resR_tmp rfl resR_nil) ⟨rfl, hO136.ext⟩
          · skip
            replace hF := ite_f hc144 hF
            with_unfolding_all refine TE_skip ?_
            with_unfolding_all refine thenQ_normal ?_
            with_unfolding_all refine TE_seq ?_
            obtain ⟨r146, h147, hF⟩ := bind_s hF
            obtain ⟨r154, h155, hF⟩ := bind_s hF
            with_unfolding_all refine TE_seqY ?_
            have hM156 := MB_none s135
            with_unfolding_all refine TX_move rfl ?_
            with_unfolding_all refine TX_cmp rfl rfl rfl ?_
            with_unfolding_all refine TX_move rfl ?_
            with_unfolding_all refine TX_cmp rfl rfl rfl ?_
            with_unfolding_all refine TX_move rfl ?_
            with_unfolding_all refine TX_guard_t rfl rfl (fun hc157 => ?_) (fun hc157 => ?_)
            · skip
              replace h147 := and_t hc157 h147
              with_unfolding_all refine TX_move rfl ?_
              with_unfolding_all refine TX_guard_yes rfl rfl hc157 ?_
              with_unfolding_all refine TX_move rfl ?_
              with_unfolding_all refine TX_guard_yes rfl rfl hc157 ?_
              with_unfolding_all refine TX_ari rfl rfl rfl ?_
              with_unfolding_all refine TX_guard_yes rfl rfl hc157 ?_
              with_unfolding_all refine TX_cmp rfl rfl rfl ?_
              with_unfolding_all refine TX_pick_t rfl hc157 rfl ?_
              obtain rfl := some_s h147
              with_unfolding_all refine TX_beq rfl rfl rfl ?_
              with_unfolding_all refine TX_move rfl ?_
              with_unfolding_all refine TX_guard_t rfl rfl (fun hc158 => ?_) (fun hc158 => ?_)
              · skip
                replace h155 := ite_t hc158 h155
                obtain ⟨r148, h149, h155⟩ := bind_s h155
                obtain ⟨r152, h153, h155⟩ := bind_s h155
                with_unfolding_all refine TX_move rfl ?_
                with_unfolding_all refine TX_guard_yes rfl rfl hc158 ?_
                with_unfolding_all refine TX_cmp rfl rfl rfl ?_
                with_unfolding_all refine TX_guard_yes rfl rfl hc158 ?_
                with_unfolding_all refine TX_move rfl ?_
                with_unfolding_all refine TX_guard_t rfl rfl (fun hc159 => ?_) (fun hc159 => ?_)
                · skip
                  replace h149 := and_t hc159 h149
                  with_unfolding_all refine TX_move rfl ?_
                  with_unfolding_all refine TX_guard_yes rfl rfl hc159 ?_
                  with_unfolding_all refine TX_cmp rfl rfl rfl ?_
                  with_unfolding_all refine TX_guard_yes rfl rfl hc158 ?_
                  with_unfolding_all refine TX_pick_t rfl hc159 rfl ?_
                  obtain rfl := some_s h149
                  with_unfolding_all refine TX_guard_yes rfl rfl hc158 ?_
                  with_unfolding_all refine TX_move rfl ?_
                  with_unfolding_all refine TX_guard_f rfl rfl (fun hc160 => ?_) (fun hc160 => ?_)
                  · skip
                    replace h153 := ite_t hc160 h153
                    obtain rfl := some_s h153
                    with_unfolding_all refine TX_guard_no_f rfl rfl hc160 ?_
                    with_unfolding_all refine TX_guard_no_f rfl rfl hc160 ?_
                    with_unfolding_all refine TX_guard_un rfl rfl ?_
                    with_unfolding_all refine TX_guard_un rfl rfl ?_
                    with_unfolding_all refine TX_guard_un rfl rfl ?_
                    with_unfolding_all refine TX_guard_un rfl rfl ?_
                    with_unfolding_all refine TX_guard_un rfl rfl ?_
                    with_unfolding_all refine TX_guard_un rfl rfl ?_
                    with_unfolding_all refine TX_guard_no_f rfl rfl hc160 ?_
                    with_unfolding_all refine TX_guard_yes rfl rfl hc158 ?_
                    with_unfolding_all refine TX_pick_t rfl hc160 rfl ?_
                    with_unfolding_all refine TX_pick_t rfl hc158 rfl ?_
                    obtain rfl := some_s h155
                    with_unfolding_all refine TX_assign rfl ?_
                    with_unfolding_all refine TX_nil ?_
                    with_unfolding_all refine thenQ_normal ?_
                    with_unfolding_all refine TE_ret ?_
                    obtain rfl := some_s hF
                    exact done_any (vs := [.bool (true)]) (.inr rfl) rfl (resR_tmp rfl resR_nil) ⟨rfl, hO136.ext⟩
                  · skip
                    replace h153 := ite_f hc160 h153
                    obtain ⟨r150, h151, h153⟩ := bind_s h153
                    with_unfolding_all refine TX_move rfl ?_
                    with_unfolding_all refine TX_guard_yes rfl rfl hc160 ?_
                    with_unfolding_all refine TX_cmp rfl rfl rfl ?_
                    with_unfolding_all refine TX_guard_yes rfl rfl hc160 ?_
                    with_unfolding_all refine TX_move rfl ?_
                    with_unfolding_all refine TX_guard_t rfl rfl (fun hc161 => ?_) (fun hc161 => ?_)
                    · skip
                      replace h151 := and_t hc161 h151
                      with_unfolding_all refine TX_move rfl ?_
                      with_unfolding_all refine TX_guard_yes rfl rfl hc161 ?_
                      with_unfolding_all refine TY_len rfl rfl rfl rfl h104 rfl ?_
                      with_unfolding_all refine TX_guard_yes rfl rfl hc161 ?_
                      with_unfolding_all refine TX_move rfl ?_
                      with_unfolding_all refine TX_guard_yes rfl rfl hc161 ?_
                      with_unfolding_all refine TX_move rfl ?_
                      with_unfolding_all refine TX_guard_yes rfl rfl hc161 ?_
                      with_unfolding_all refine TX_ari rfl rfl rfl ?_
                      with_unfolding_all refine TX_guard_yes rfl rfl hc161 ?_
                      with_unfolding_all refine TX_cmp rfl rfl rfl ?_
                      with_unfolding_all refine TX_guard_yes rfl rfl hc160 ?_
                      with_unfolding_all refine TX_pick_t rfl hc161 rfl ?_
                      obtain rfl := some_s h151
                      with_unfolding_all refine TX_guard_yes rfl rfl hc158 ?_
                      with_unfolding_all refine TX_pick_f rfl hc160 rfl ?_
                      obtain rfl := some_s h153
                      with_unfolding_all refine TX_pick_t rfl hc158 rfl ?_
                      obtain rfl := some_s h155
                      with_unfolding_all refine TX_assign rfl ?_
                      with_unfolding_all refine TX_nil ?_
                      with_unfolding_all refine thenQ_normal ?_
                      with_unfolding_all refine TE_ret ?_
                      obtain rfl := some_s hF
                      exact done_any (vs := [.bool (((x85.1.length : Int) == (IntKind.wrap .i64 ((band .i64 x0_ 511) * (band .i64 x1_ 31)))))]) (.inr rfl) rfl (resR_tmp rfl resR_nil) ⟨rfl, hO136.ext⟩
                    · skip
                      replace h151 := and_f hc161 h151
                      obtain rfl := some_s h151
                      with_unfolding_all refine TX_guard_no_t rfl rfl hc161 ?_
                      with_unfolding_all refine TX_guard_no_t rfl rfl hc161 ?_
                      with_unfolding_all refine TX_guard_no_t rfl rfl hc161 ?_
                      with_unfolding_all refine TX_guard_no_t rfl rfl hc161 ?_
                      with_unfolding_all refine TX_guard_no_t rfl rfl hc161 ?_
                      with_unfolding_all refine TX_guard_yes rfl rfl hc160 ?_
                      with_unfolding_all refine TX_pick_f rfl hc161 rfl ?_
                      with_unfolding_all refine TX_guard_yes rfl rfl hc158 ?_
                      with_unfolding_all refine TX_pick_f rfl hc160 rfl ?_
                      obtain rfl := some_s h153
                      with_unfolding_all refine TX_pick_t rfl hc158 rfl ?_
                      obtain rfl := some_s h155
                      with_unfolding_all refine TX_assign rfl ?_
                      with_unfolding_all refine TX_nil ?_
                      with_unfolding_all refine thenQ_normal ?_
                      with_unfolding_all refine TE_ret ?_
                      obtain rfl := some_s hF
                      exact done_any (vs := [.bool (false)]) (.inr rfl) rfl (resR_tmp rfl resR_nil) ⟨rfl, hO136.ext⟩
                · skip
                  replace h149 := and_f hc159 h149
                  obtain rfl := some_s h149
                  with_unfolding_all refine TX_guard_no_t rfl rfl hc159 ?_
                  with_unfolding_all refine TX_guard_yes rfl rfl hc158 ?_
                  with_unfolding_all refine TX_pick_f rfl hc159 rfl ?_
                  with_unfolding_all refine TX_guard_yes rfl rfl hc158 ?_
                  with_unfolding_all refine TX_move rfl ?_
                  replace h153 := ite_f rfl h153
                  obtain ⟨r150, h151, h153⟩ := bind_s h153
                  with_unfolding_all refine TX_guard_yes rfl rfl rfl ?_
                  with_unfolding_all refine TX_move rfl ?_
                  with_unfolding_all refine TX_guard_yes rfl rfl rfl ?_
                  with_unfolding_all refine TX_cmp rfl rfl rfl ?_
                  with_unfolding_all refine TX_guard_yes rfl rfl rfl ?_
                  with_unfolding_all refine TX_move rfl ?_
                  with_unfolding_all refine TX_guard_t rfl rfl (fun hc162 => ?_) (fun hc162 => ?_)
                  · skip
                    replace h151 := and_t hc162 h151
                    with_unfolding_all refine TX_move rfl ?_
                    with_unfolding_all refine TX_guard_yes rfl rfl hc162 ?_
                    with_unfolding_all refine TY_len rfl rfl rfl rfl h104 rfl ?_
                    with_unfolding_all refine TX_guard_yes rfl rfl hc162 ?_
                    with_unfolding_all refine TX_move rfl ?_
                    with_unfolding_all refine TX_guard_yes rfl rfl hc162 ?_
                    with_unfolding_all refine TX_move rfl ?_
                    with_unfolding_all refine TX_guard_yes rfl rfl hc162 ?_
                    with_unfolding_all refine TX_ari rfl rfl rfl ?_
                    with_unfolding_all refine TX_guard_yes rfl rfl hc162 ?_
                    with_unfolding_all refine TX_cmp rfl rfl rfl ?_
                    with_unfolding_all refine TX_guard_yes rfl rfl rfl ?_
                    with_unfolding_all refine TX_pick_t rfl hc162 rfl ?_
                    obtain rfl := some_s h151
                    with_unfolding_all refine TX_guard_yes rfl rfl hc158 ?_
                    with_unfolding_all refine TX_pick_f rfl rfl rfl ?_
                    obtain rfl := some_s h153
                    with_unfolding_all refine TX_pick_t rfl hc158 rfl ?_
                    obtain rfl := some_s h155
                    with_unfolding_all refine TX_assign rfl ?_
                    with_unfolding_all refine TX_nil ?_
                    with_unfolding_all refine thenQ_normal ?_
                    with_unfolding_all refine TE_ret ?_
                    obtain rfl := some_s hF
                    exact done_any (vs := [.bool (((x85.1.length : Int) == (IntKind.wrap .i64 ((band .i64 x0_ 511) * (band .i64 x1_ 31)))))]) (.inr rfl) rfl (resR_tmp rfl resR_nil) ⟨rfl, hO136.ext⟩
                  · skip
                    replace h151 := and_f hc162 h151
                    obtain rfl := some_s h151
                    with_unfolding_all refine TX_guard_no_t rfl rfl hc162 ?_
                    with_unfolding_all refine TX_guard_no_t rfl rfl hc162 ?_
                    with_unfolding_all refine TX_guard_no_t rfl rfl hc162 ?_
                    with_unfolding_all refine TX_guard_no_t rfl rfl hc162 ?_
                    with_unfolding_all refine TX_guard_no_t rfl rfl hc162 ?_
                    with_unfolding_all refine TX_guard_yes rfl rfl rfl ?_
                    with_unfolding_all refine TX_pick_f rfl hc162 rfl ?_
                    with_unfolding_all refine TX_guard_yes rfl rfl hc158 ?_
                    with_unfolding_all refine TX_pick_f rfl rfl rfl ?_
                    obtain rfl := some_s h153
                    with_unfolding_all refine TX_pick_t rfl hc158 rfl ?_
                    obtain rfl := some_s h155
                    with_unfolding_all refine TX_assign rfl ?_
                    with_unfolding_all refine TX_nil ?_
                    with_unfolding_all refine thenQ_normal ?_
                    with_unfolding_all refine TE_ret ?_
                    obtain rfl := some_s hF
                    exact done_any (vs := [.bool (false)]) (.inr rfl) rfl (resR_tmp rfl resR_nil) ⟨rfl, hO136.ext⟩
              · skip
                replace h155 := ite_f hc158 h155
                obtain rfl := some_s h155
                with_unfolding_all refine TX_guard_no_t rfl rfl hc158 ?_
                with_unfolding_all refine TX_guard_no_t rfl rfl hc158 ?_
                with_unfolding_all refine TX_guard_un rfl rfl ?_
                with_unfolding_all refine TX_guard_un rfl rfl ?_
                with_unfolding_all refine TX_guard_no_t rfl rfl hc158 ?_
                with_unfolding_all refine TX_guard_no_t rfl rfl hc158 ?_
                with_unfolding_all refine TX_guard_un rfl rfl ?_
                with_unfolding_all refine TX_guard_un rfl rfl ?_
                with_unfolding_all refine TX_guard_un rfl rfl ?_
                with_unfolding_all refine TX_guard_un rfl rfl ?_
                with_unfolding_all refine TX_guard_un rfl rfl ?_
                with_unfolding_all refine TX_guard_un rfl rfl ?_
                with_unfolding_all refine TX_guard_un rfl rfl ?_
                with_unfolding_all refine TX_guard_un rfl rfl ?_
                with_unfolding_all refine TX_guard_un rfl rfl ?_
                with_unfolding_all refine TX_guard_un rfl rfl ?_
                with_unfolding_all refine TX_guard_no_t rfl rfl hc158 ?_
                with_unfolding_all refine TX_pick_f rfl hc158 rfl ?_
                with_unfolding_all refine TX_assign rfl ?_
                with_unfolding_all refine TX_nil ?_
                with_unfolding_all refine thenQ_normal ?_
                with_unfolding_all refine TE_ret ?_
                obtain rfl := some_s hF
                exact done_any (vs := [.bool (false)]) (.inr rfl) rfl (resR_tmp rfl resR_nil) ⟨rfl, hO136.ext⟩
            · skip
              replace h147 := and_f hc157 h147
              obtain rfl := some_s h147
              with_unfolding_all refine TX_guard_no_t rfl rfl hc157 ?_
              with_unfolding_all refine TX_guard_no_t rfl rfl hc157 ?_
              with_unfolding_all refine TX_guard_no_t rfl rfl hc157 ?_
              with_unfolding_all refine TX_pick_f rfl hc157 rfl ?_
              with_unfolding_all refine TX_beq rfl rfl rfl ?_
              with_unfolding_all refine TX_move rfl ?_
              with_unfolding_all refine TX_guard_t rfl rfl (fun hc163 => ?_) (fun hc163 => ?_)
              · skip
                replace h155 := ite_t hc163 h155
                obtain ⟨r148, h149, h155⟩ := bind_s h155
                obtain ⟨r152, h153, h155⟩ := bind_s h155
                with_unfolding_all refine TX_move rfl ?_
                with_unfolding_all refine TX_guard_yes rfl rfl hc163 ?_
                with_unfolding_all refine TX_cmp rfl rfl rfl ?_
                with_unfolding_all refine TX_guard_yes rfl rfl hc163 ?_
                with_unfolding_all refine TX_move rfl ?_
                with_unfolding_all refine TX_guard_t rfl rfl (fun hc164 => ?_) (fun hc164 => ?_)
                · skip
                  replace h149 := and_t hc164 h149
                  with_unfolding_all refine TX_move rfl ?_
                  with_unfolding_all refine TX_guard_yes rfl rfl hc164 ?_
                  with_unfolding_all refine TX_cmp rfl rfl rfl ?_
                  with_unfolding_all refine TX_guard_yes rfl rfl hc163 ?_
                  with_unfolding_all refine TX_pick_t rfl hc164 rfl ?_
                  obtain rfl := some_s h149
                  with_unfolding_all refine TX_guard_yes rfl rfl hc163 ?_
                  with_unfolding_all refine TX_move rfl ?_
                  with_unfolding_all refine TX_guard_f rfl rfl (fun hc165 => ?_) (fun hc165 => ?_)
                  · skip
                    replace h153 := ite_t hc165 h153
                    obtain rfl := some_s h153
                    with_unfolding_all refine TX_guard_no_f rfl rfl hc165 ?_
                    with_unfolding_all refine TX_guard_no_f rfl rfl hc165 ?_
                    with_unfolding_all refine TX_guard_un rfl rfl ?_
                    with_unfolding_all refine TX_guard_un rfl rfl ?_
                    with_unfolding_all refine TX_guard_un rfl rfl ?_
                    with_unfolding_all refine TX_guard_un rfl rfl ?_
                    with_unfolding_all refine TX_guard_un rfl rfl ?_
                    with_unfolding_all refine TX_guard_un rfl rfl ?_
                    with_unfolding_all refine TX_guard_no_f rfl rfl hc165 ?_
                    with_unfolding_all refine TX_guard_yes rfl rfl hc163 ?_
                    with_unfolding_all refine TX_pick_t rfl hc165 rfl ?_
                    with_unfolding_all refine TX_pick_t rfl hc163 rfl ?_
                    obtain rfl := some_s h155
                    with_unfolding_all refine TX_assign rfl ?_
                    with_unfolding_all refine TX_nil ?_
                    with_unfolding_all refine thenQ_normal ?_
                    with_unfolding_all refine TE_ret ?_
                    obtain rfl := some_s hF
                    exact done_any (vs := [.bool (true)]) (.inr rfl) rfl (resR_tmp rfl resR_nil) ⟨rfl, hO136.ext⟩
                  · skip
                    replace h153 := ite_f hc165 h153
                    obtain ⟨r150, h151, h153⟩ := bind_s h153
                    with_unfolding_all refine TX_move rfl ?_
                    with_unfolding_all refine TX_guard_yes rfl rfl hc165 ?_
                    with_unfolding_all refine TX_cmp rfl rfl rfl ?_
                    with_unfolding_all refine TX_guard_yes rfl rfl hc165 ?_
                    with_unfolding_all refine TX_move rfl ?_
                    with_unfolding_all refine TX_guard_t rfl rfl (fun hc166 => ?_) (fun hc166 => ?_)
                    · skip
                      replace h151 := and_t hc166 h151
                      with_unfolding_all refine TX_move rfl ?_
                      with_unfolding_all refine TX_guard_yes rfl rfl hc166 ?_
                      with_unfolding_all refine TY_len rfl rfl rfl rfl h104 rfl ?_
                      with_unfolding_all refine TX_guard_yes rfl rfl hc166 ?_
                      with_unfolding_all refine TX_move rfl ?_
                      with_unfolding_all refine TX_guard_yes rfl rfl hc166 ?_
                      with_unfolding_all refine TX_move rfl ?_
                      with_unfolding_all refine TX_guard_yes rfl rfl hc166 ?_
                      with_unfolding_all refine TX_ari rfl rfl rfl ?_
                      with_unfolding_all refine TX_guard_yes rfl rfl hc166 ?_
                      with_unfolding_all refine TX_cmp rfl rfl rfl ?_
                      with_unfolding_all refine TX_guard_yes rfl rfl hc165 ?_
                      with_unfolding_all refine TX_pick_t rfl hc166 rfl ?_
                      obtain rfl := some_s h151
                      with_unfolding_all refine TX_guard_yes rfl rfl hc163 ?_
                      with_unfolding_all refine TX_pick_f rfl hc165 rfl ?_
                      obtain rfl := some_s h153
                      with_unfolding_all refine TX_pick_t rfl hc163 rfl ?_
                      obtain rfl := some_s h155
                      with_unfolding_all refine TX_assign rfl ?_
                      with_unfolding_all refine TX_nil ?_
                      with_unfolding_all refine thenQ_normal ?_
                      with_unfolding_all refine TE_ret ?_
                      obtain rfl := some_s hF
                      exact done_any (vs := [.bool (((x85.1.length : Int) == (IntKind.wrap .i64 ((band .i64 x0_ 511) * (band .i64 x1_ 31)))))]) (.inr rfl) rfl (resR_tmp rfl resR_nil) ⟨rfl, hO136.ext⟩
                    · skip
                      replace h151 := and_f hc166 h151
                      obtain rfl := some_s h151
                      with_unfolding_all refine TX_guard_no_t rfl rfl hc166 ?_
                      with_unfolding_all refine TX_guard_no_t rfl rfl hc166 ?_
                      with_unfolding_all refine TX_guard_no_t rfl rfl hc166 ?_
                      with_unfolding_all refine TX_guard_no_t rfl rfl hc166 ?_
                      with_unfolding_all refine TX_guard_no_t rfl rfl hc166 ?_
                      with_unfolding_all refine TX_guard_yes rfl rfl hc165 ?_
                      with_unfolding_all refine TX_pick_f rfl hc166 rfl ?_
                      with_unfolding_all refine TX_guard_yes rfl rfl hc163 ?_
                      with_unfolding_all refine TX_pick_f rfl hc165 rfl ?_
                      obtain rfl := some_s h153
                      with_unfolding_all refine TX_pick_t rfl hc163 rfl ?_
                      obtain rfl := some_s h155
                      with_unfolding_all refine TX_assign rfl ?_
                      with_unfolding_all refine TX_nil ?_
                      with_unfolding_all refine thenQ_normal ?_
                      with_unfolding_all refine TE_ret ?_
                      obtain rfl := some_s hF
                      exact done_any (vs := [.bool (false)]) (.inr rfl) rfl (resR_tmp rfl resR_nil) ⟨rfl, hO136.ext⟩
                · skip
                  replace h149 := and_f hc164 h149
                  obtain rfl := some_s h149
                  with_unfolding_all refine TX_guard_no_t rfl rfl hc164 ?_
                  with_unfolding_all refine TX_guard_yes rfl rfl hc163 ?_
                  with_unfolding_all refine TX_pick_f rfl hc164 rfl ?_
                  with_unfolding_all refine TX_guard_yes rfl rfl hc163 ?_
                  with_unfolding_all refine TX_move rfl ?_
                  replace h153 := ite_f rfl h153
                  obtain ⟨r150, h151, h153⟩ := bind_s h153
                  with_unfolding_all refine TX_guard_yes rfl rfl rfl ?_
                  with_unfolding_all refine TX_move rfl ?_
                  with_unfolding_all refine TX_guard_yes rfl rfl rfl ?_
                  with_unfolding_all refine TX_cmp rfl rfl rfl ?_
                  with_unfolding_all refine TX_guard_yes rfl rfl rfl ?_
                  with_unfolding_all refine TX_move rfl ?_
                  with_unfolding_all refine TX_guard_t rfl rfl (fun hc167 => ?_) (fun hc167 => ?_)
                  · skip
                    replace h151 := and_t hc167 h151
                    with_unfolding_all refine TX_move rfl ?_
                    with_unfolding_all refine TX_guard_yes rfl rfl hc167 ?_
                    with_unfolding_all refine TY_len rfl rfl rfl rfl h104 rfl ?_
                    with_unfolding_all refine TX_guard_yes rfl rfl hc167 ?_
                    with_unfolding_all refine TX_move rfl ?_
                    with_unfolding_all refine TX_guard_yes rfl rfl hc167 ?_
                    with_unfolding_all refine TX_move rfl ?_
                    with_unfolding_all refine TX_guard_yes rfl rfl hc167 ?_
                    with_unfolding_all refine TX_ari rfl rfl rfl ?_
                    with_unfolding_all refine TX_guard_yes rfl rfl hc167 ?_
                    with_unfolding_all refine TX_cmp rfl rfl rfl ?_
                    with_unfolding_all refine TX_guard_yes rfl rfl rfl ?_
                    with_unfolding_all refine TX_pick_t rfl hc167 rfl ?_
                    obtain rfl := some_s h151
                    with_unfolding_all refine TX_guard_yes rfl rfl hc163 ?_
                    with_unfolding_all refine TX_pick_f rfl rfl rfl ?_
                    obtain rfl := some_s h153
                    with_unfolding_all refine TX_pick_t rfl hc163 rfl ?_
                    obtain rfl := some_s h155
                    with_unfolding_all refine TX_assign rfl ?_
                    with_unfolding_all refine TX_nil ?_
                    with_unfolding_all refine thenQ_normal ?_
                    with_unfolding_all refine TE_ret ?_
                    obtain rfl := some_s hF
                    exact done_any (vs := [.bool (((x85.1.length : Int) == (IntKind.wrap .i64 ((band .i64 x0_ 511) * (band .i64 x1_ 31)))))]) (.inr rfl) rfl (resR_tmp rfl resR_nil) ⟨rfl, hO136.ext⟩
                  · skip
                    replace h151 := and_f hc167 h151
                    obtain rfl := some_s h151
                    with_unfolding_all refine TX_guard_no_t rfl rfl hc167 ?_
                    with_unfolding_all refine TX_guard_no_t rfl rfl hc167 ?_
                    with_unfolding_all refine TX_guard_no_t rfl rfl hc167 ?_
                    with_unfolding_all refine TX_guard_no_t rfl rfl hc167 ?_
                    with_unfolding_all refine TX_guard_no_t rfl rfl hc167 ?_
                    with_unfolding_all refine TX_guard_yes rfl rfl rfl ?_
                    with_unfolding_all refine TX_pick_f rfl hc167 rfl ?_
                    with_unfolding_all refine TX_guard_yes rfl rfl hc163 ?_
                    with_unfolding_all refine TX_pick_f rfl rfl rfl ?_
                    obtain rfl := some_s h153
                    with_unfolding_all refine TX_pick_t rfl hc163 rfl ?_
                    obtain rfl := some_s h155
                    with_unfolding_all refine TX_assign rfl ?_
                    with_unfolding_all refine TX_nil ?_
                    with_unfolding_all refine thenQ_normal ?_
                    with_unfolding_all refine TE_ret ?_
                    obtain rfl := some_s hF
                    exact done_any (vs := [.bool (false)]) (.inr rfl) rfl (resR_tmp rfl resR_nil) ⟨rfl, hO136.ext⟩
              · skip
                replace h155 := ite_f hc163 h155
                obtain rfl := some_s h155
                with_unfolding_all refine TX_guard_no_t rfl rfl hc163 ?_
                with_unfolding_all refine TX_guard_no_t rfl rfl hc163 ?_
                with_unfolding_all refine TX_guard_un rfl rfl ?_
                with_unfolding_all refine TX_guard_un rfl rfl ?_
                with_unfolding_all refine TX_guard_no_t rfl rfl hc163 ?_
                with_unfolding_all refine TX_guard_no_t rfl rfl hc163 ?_
                with_unfolding_all refine TX_guard_un rfl rfl ?_
                with_unfolding_all refine TX_guard_un rfl rfl ?_
                with_unfolding_all refine TX_guard_un rfl rfl ?_
                with_unfolding_all refine TX_guard_un rfl rfl ?_
                with_unfolding_all refine TX_guard_un rfl rfl ?_
                with_unfolding_all refine TX_guard_un rfl rfl ?_
                with_unfolding_all refine TX_guard_un rfl rfl ?_
                with_unfolding_all refine TX_guard_un rfl rfl ?_
                with_unfolding_all refine TX_guard_un rfl rfl ?_
                with_unfolding_all refine TX_guard_un rfl rfl ?_
                with_unfolding_all refine TX_guard_no_t rfl rfl hc163 ?_
                with_unfolding_all refine TX_pick_f rfl hc163 rfl ?_
                with_unfolding_all refine TX_assign rfl ?_
                with_unfolding_all refine TX_nil ?_
                with_unfolding_all refine thenQ_normal ?_
                with_unfolding_all refine TE_ret ?_
                obtain rfl := some_s hF
                exact done_any (vs := [.bool (false)]) (.inr rfl) rfl (resR_tmp rfl resR_nil) ⟨rfl, hO136.ext⟩
end Go.Proofs.Ytihbdelgoapeoaa.K
