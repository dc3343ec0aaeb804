/- Walks. Printed. -/
import Derived.Test.YtihbdelgoapeoaaGW7
namespace Go.Proofs.Ytihbdelgoapeoaa.K
open Go Go.RowKit F
set_option maxRecDepth 100000
set_option maxHeartbeats 4000000
set_option linter.unusedVariables false
set_option linter.unusedSimpArgs false
theorem law12_MatchJoins_ok {x0_ : (List match_Match)} {x1_ : (List match_Match)} {y : Bool} (hF : F.law12_MatchJoins x0_ x1_ = some y) {v0_ : AV} {v1_ : AV} {σ : Mem} (h0_ : (RS e_match_Match) v0_ x0_) (h1_ : (RS e_match_Match) v1_ x1_)  :
    CallE Try.prog 4 [v0_, v1_] σ (fun v σ' => eB.rel v y ∧ Ext σ σ') := by
  unfold F.law12_MatchJoins at hF
  refine CallE_of Try.func4 rfl Try.ntmps4 (by simp) ?_
  have hO0 := Own.start σ
  with_unfolding_all refine TE_seq ?_
  with_unfolding_all refine TE_seqY ?_
  have hM1 := MB_none σ
  with_unfolding_all refine TX_assign rfl ?_
  with_unfolding_all refine TX_nil ?_
  with_unfolding_all refine thenQ_normal ?_
  with_unfolding_all refine TE_seq ?_
  with_unfolding_all refine TE_seq ?_
  obtain ⟨x2, h3, hF⟩ := bind_s hF
  with_unfolding_all refine TE_seqY ?_
  have hM4 := MB_none σ
  have hc5 : CallE Try.prog 14 [] σ _ := law12_head_ok h3 
  with_unfolding_all refine TY_call hM4 rfl en14 hc5 ?_
  intro v6 s10 hv7 hX8 hM9
  have hO11 := hO0.ext_call hX8
  obtain rfl := hv7
  with_unfolding_all refine TX_not rfl ?_
  with_unfolding_all refine TX_nil ?_
  with_unfolding_all refine thenQ_normal ?_
  with_unfolding_all refine TE_cond rfl (fun hc12 => ?_) (fun hc12 => ?_)
  · skip
    replace hF := ite_t hc12 hF
    with_unfolding_all refine TE_seq ?_
    with_unfolding_all refine TE_seqY ?_
    have hM13 := MB_none s10
    with_unfolding_all refine TX_assign rfl ?_
    with_unfolding_all refine TX_nil ?_
    with_unfolding_all refine thenQ_normal ?_
    with_unfolding_all refine TE_ret ?_
    with_unfolding_all refine thenQ_ret ?_
    obtain rfl := some_s hF
    exact done_any (vs := [.bool (false)]) (.inr rfl) rfl (resR_tmp rfl resR_nil) ⟨rfl, hO11.ext⟩
  · skip
    replace hF := ite_f hc12 hF
    with_unfolding_all refine TE_skip ?_
    with_unfolding_all refine thenQ_normal ?_
    with_unfolding_all refine TE_seq ?_
    with_unfolding_all refine TE_seq ?_
    obtain ⟨x14, h15, hF⟩ := bind_s hF
    obtain ⟨r18, h19, hF⟩ := bind_s hF
    refine TE_cutQ (fun z => ∃ (s21 : Mem), Own σ [] s21 [] ∧ Le z ⟨fr 156 [(0, v0_), (1, v1_), (25, .bool (r18))], [], s21⟩) ?_ ?_
    · skip
      with_unfolding_all refine TE_seqY ?_
      have hM24 := MB_none s10
      with_unfolding_all refine TX_move rfl ?_
      have hc25 : CallE Try.prog 15 [v0_, .int .i64 (25)] s10 _ := law12_Good_ok h15 h0_ rfl
      with_unfolding_all refine TY_call hM24 rfl en15 hc25 ?_
      intro v26 s30 hv27 hX28 hM29
      have hO31 := hO11.ext_call hX28
      obtain rfl := hv27
      with_unfolding_all refine TX_not rfl ?_
      with_unfolding_all refine TX_move rfl ?_
      with_unfolding_all refine TX_guard_f rfl rfl (fun hc32 => ?_) (fun hc32 => ?_)
      · skip
        replace h19 := ite_t hc32 h19
        obtain rfl := some_s h19
        with_unfolding_all refine TX_guard_no_f rfl rfl hc32 ?_
        with_unfolding_all refine TX_guard_no_f rfl rfl hc32 ?_
        with_unfolding_all refine TX_pick_t rfl hc32 rfl ?_
        with_unfolding_all refine TX_nil ?_
        exact joinQ_normal ⟨s30, (hO31.sub 0 rfl), (Le_fr ⟨rfl, ⟨rfl, ⟨rfl, trivial⟩⟩⟩)⟩
      · skip
        replace h19 := ite_f hc32 h19
        obtain ⟨x16, h17, h19⟩ := bind_s h19
        with_unfolding_all refine TX_move rfl ?_
        with_unfolding_all refine TX_guard_yes rfl rfl hc32 ?_
        have hc33 : CallE Try.prog 15 [v1_, .int .i64 (25)] s30 _ := law12_Good_ok h17 h1_ rfl
        with_unfolding_all refine TY_call hM29 rfl en15 hc33 ?_
        intro v34 s38 hv35 hX36 hM37
        have hO39 := hO31.ext_call hX36
        obtain rfl := hv35
        with_unfolding_all refine TX_guard_yes rfl rfl hc32 ?_
        with_unfolding_all refine TX_not rfl ?_
        with_unfolding_all refine TX_pick_f rfl hc32 rfl ?_
        obtain rfl := some_s h19
        with_unfolding_all refine TX_nil ?_
        exact joinQ_normal ⟨s38, (hO39.sub 0 rfl), (Le_fr ⟨rfl, ⟨rfl, ⟨rfl, trivial⟩⟩⟩)⟩
    · skip
      rintro zj20 ⟨s21, hO22, hz23⟩
      with_unfolding_all refine thenQ_normal ?_
      refine TE_pre hz23 ?_
      with_unfolding_all refine TE_cond rfl (fun hc40 => ?_) (fun hc40 => ?_)
      · skip
        replace hF := ite_t hc40 hF
        with_unfolding_all refine TE_seq ?_
        with_unfolding_all refine TE_seqY ?_
        have hM41 := MB_none s21
        with_unfolding_all refine TX_assign rfl ?_
        with_unfolding_all refine TX_nil ?_
        with_unfolding_all refine thenQ_normal ?_
        with_unfolding_all refine TE_ret ?_
        with_unfolding_all refine thenQ_ret ?_
        obtain rfl := some_s hF
        exact done_any (vs := [.bool (true)]) (.inr rfl) rfl (resR_tmp rfl resR_nil) ⟨rfl, hO22.ext⟩
      · skip
        replace hF := ite_f hc40 hF
        with_unfolding_all refine TE_skip ?_
        with_unfolding_all refine thenQ_normal ?_
        with_unfolding_all refine TE_seq ?_
        obtain ⟨x42, h43, hF⟩ := bind_s hF
        with_unfolding_all refine TE_seqY ?_
        have hM44 := MB_none s21
        with_unfolding_all refine TX_move rfl ?_
        with_unfolding_all refine TX_move rfl ?_
        have hc45 : CallE Try.prog 18 [v0_, v1_] s21 _ := match_Or_ok h43 h0_ h1_
        with_unfolding_all refine TY_call hM44 rfl en18 hc45 ?_
        intro v46 s50 hv47 hX48 hM49
        have hO51 := hO22.ext_call hX48
        obtain ⟨v52, v53, rfl, h54, h55⟩ := hv47
        obtain rfl := h55
        with_unfolding_all refine TX_move rfl ?_
        with_unfolding_all refine TX_extract rfl rfl ?_
        with_unfolding_all refine TX_extract rfl rfl ?_
        with_unfolding_all refine TX_assign rfl ?_
        with_unfolding_all refine TX_assign rfl ?_
        with_unfolding_all refine TX_nil ?_
        with_unfolding_all refine thenQ_normal ?_
        with_unfolding_all refine TE_seq ?_
        obtain ⟨x56, h57, hF⟩ := bind_s hF
        with_unfolding_all refine TE_seqY ?_
        have hM58 := MB_none s50
        with_unfolding_all refine TX_move rfl ?_
        with_unfolding_all refine TX_move rfl ?_
        have hc59 : CallE Try.prog 19 [v0_, v1_] s50 _ := match_And_ok h57 h0_ h1_
        with_unfolding_all refine TY_call hM58 rfl en19 hc59 ?_
        intro v60 s64 hv61 hX62 hM63
        have hO65 := hO51.ext_call hX62
        obtain ⟨v66, v67, rfl, h68, h69⟩ := hv61
        obtain rfl := h69
        with_unfolding_all refine TX_move rfl ?_
        with_unfolding_all refine TX_extract rfl rfl ?_
        with_unfolding_all refine TX_extract rfl rfl ?_
        with_unfolding_all refine TX_assign rfl ?_
        with_unfolding_all refine TX_assign rfl ?_
        with_unfolding_all refine TX_nil ?_
        with_unfolding_all refine thenQ_normal ?_
        with_unfolding_all refine TE_seq ?_
        obtain ⟨x70, h71, hF⟩ := bind_s hF
        with_unfolding_all refine TE_seqY ?_
        have hM72 := MB_none s64
        with_unfolding_all refine TX_move rfl ?_
        have hc73 : CallE Try.prog 20 [v0_] s64 _ := match_Not_ok h71 h0_
        with_unfolding_all refine TY_call hM72 rfl en20 hc73 ?_
        intro v74 s78 hv75 hX76 hM77
        have hO79 := hO65.ext_call hX76
        obtain ⟨v80, v81, rfl, h82, h83⟩ := hv75
        obtain rfl := h83
        with_unfolding_all refine TX_move rfl ?_
        with_unfolding_all refine TX_extract rfl rfl ?_
        with_unfolding_all refine TX_extract rfl rfl ?_
        with_unfolding_all refine TX_assign rfl ?_
        with_unfolding_all refine TX_assign rfl ?_
        with_unfolding_all refine TX_nil ?_
        with_unfolding_all refine thenQ_normal ?_
        with_unfolding_all refine TE_seq ?_
        obtain ⟨x84, h85, hF⟩ := bind_s hF
        with_unfolding_all refine TE_seqY ?_
        have hM86 := MB_none s78
        with_unfolding_all refine TX_move rfl ?_
        with_unfolding_all refine TX_move rfl ?_
        have hc87 : CallE Try.prog 21 [v0_, v1_] s78 _ := law12_and_ok h85 h0_ h1_
        with_unfolding_all refine TY_call hM86 rfl en21 hc87 ?_
        intro v88 s92 hv89 hX90 hM91
        have hO93 := hO79.ext_call hX90
        obtain ⟨v94, v95, rfl, h96, h97⟩ := hv89
        obtain rfl := h97
        with_unfolding_all refine TX_move rfl ?_
        with_unfolding_all refine TX_extract rfl rfl ?_
        with_unfolding_all refine TX_extract rfl rfl ?_
        with_unfolding_all refine TX_assign rfl ?_
        with_unfolding_all refine TX_assign rfl ?_
        with_unfolding_all refine TX_nil ?_
        with_unfolding_all refine thenQ_normal ?_
        with_unfolding_all refine TE_seq ?_
        obtain ⟨x98, h99, hF⟩ := bind_s hF
        with_unfolding_all refine TE_seqY ?_
        have hM100 := MB_none s92
        with_unfolding_all refine TX_move rfl ?_
        have hc101 : CallE Try.prog 22 [v0_] s92 _ := law12_not_ok h99 h0_
        with_unfolding_all refine TY_call hM100 rfl en22 hc101 ?_
        intro v102 s106 hv103 hX104 hM105
        have hO107 := hO93.ext_call hX104
        obtain ⟨v108, v109, rfl, h110, h111⟩ := hv103
        obtain rfl := h111
        with_unfolding_all refine TX_move rfl ?_
        with_unfolding_all refine TX_extract rfl rfl ?_
        with_unfolding_all refine TX_extract rfl rfl ?_
        with_unfolding_all refine TX_assign rfl ?_
        with_unfolding_all refine TX_assign rfl ?_
        with_unfolding_all refine TX_nil ?_
        with_unfolding_all refine thenQ_normal ?_
        with_unfolding_all refine TE_seq ?_
        with_unfolding_all refine TE_seqY ?_
        have hM112 := MB_none s106
        with_unfolding_all refine TX_assign rfl ?_
        with_unfolding_all refine TX_nil ?_
        with_unfolding_all refine thenQ_normal ?_
        with_unfolding_all refine TE_seq ?_
        with_unfolding_all refine TE_seq ?_
        obtain ⟨x113, h114, hF⟩ := bind_s hF
        obtain ⟨x115, h116, hF⟩ := bind_s hF
        obtain ⟨r117, h118, hF⟩ := bind_s hF
        obtain ⟨r125, h126, hF⟩ := bind_s hF
        obtain ⟨r135, h136, hF⟩ := bind_s hF
        refine TE_cutQ (fun z => ∃ (s138 : Mem), Own σ [] s138 [] ∧ Le z ⟨fr 156 [(0, v0_), (1, v1_), (7, v66), (8, .int .i64 (x56.2)), (9, v80), (10, .int .i64 (x70.2)), (11, v94), (12, .bool (x84.2)), (13, v108), (14, .bool (x98.2)), (15, .fn (.func 23) [] []), (86, .bool (r135))], [], s138⟩) ?_ ?_
        · skip
          with_unfolding_all refine TE_seqY ?_
          have hM141 := MB_none s106
          with_unfolding_all refine TX_move rfl ?_
          have hc142 : CallE Try.prog 24 [v0_] s106 _ := match_Holds_ok h114 h0_
          with_unfolding_all refine TY_call hM141 rfl en24 hc142 ?_
          intro v143 s147 hv144 hX145 hM146
          have hO148 := hO107.ext_call hX145
          obtain rfl := hv144
          with_unfolding_all refine TX_move rfl ?_
          with_unfolding_all refine TX_move rfl ?_
          have hc149 : CallE Try.prog 23 [v0_] s147 _ := law12_MatchJoins_1_ok h116 h0_
          with_unfolding_all refine TY_call hM146 rfl en23 hc149 ?_
          intro v150 s154 hv151 hX152 hM153
          have hO155 := hO148.ext_call hX152
          obtain rfl := hv151
          with_unfolding_all refine TX_bne rfl rfl rfl ?_
          with_unfolding_all refine TX_move rfl ?_
          with_unfolding_all refine TX_guard_f rfl rfl (fun hc156 => ?_) (fun hc156 => ?_)
          · skip
            replace h118 := or_t hc156 h118
            obtain rfl := some_s h118
            with_unfolding_all refine TX_guard_no_f rfl rfl hc156 ?_
            with_unfolding_all refine TX_pick_t rfl hc156 rfl ?_
            with_unfolding_all refine TX_move rfl ?_
            replace h126 := ite_t rfl h126
            obtain rfl := some_s h126
            with_unfolding_all refine TX_guard_no_f rfl rfl rfl ?_
            with_unfolding_all refine TX_guard_no_f rfl rfl rfl ?_
            with_unfolding_all refine TX_guard_no_f rfl rfl rfl ?_
            with_unfolding_all refine TX_guard_no_f rfl rfl rfl ?_
            with_unfolding_all refine TX_guard_no_f rfl rfl rfl ?_
            with_unfolding_all refine TX_guard_no_f rfl rfl rfl ?_
            with_unfolding_all refine TX_guard_no_f rfl rfl rfl ?_
            with_unfolding_all refine TX_guard_no_f rfl rfl rfl ?_
            with_unfolding_all refine TX_pick_t rfl rfl rfl ?_
            with_unfolding_all refine TX_move rfl ?_
            replace h136 := ite_t rfl h136
            obtain rfl := some_s h136
            with_unfolding_all refine TX_guard_no_f rfl rfl rfl ?_
            with_unfolding_all refine TX_guard_no_f rfl rfl rfl ?_
            with_unfolding_all refine TX_guard_no_f rfl rfl rfl ?_
            with_unfolding_all refine TX_guard_no_f rfl rfl rfl ?_
            with_unfolding_all refine TX_guard_no_f rfl rfl rfl ?_
            with_unfolding_all refine TX_guard_no_f rfl rfl rfl ?_
            with_unfolding_all refine TX_guard_un rfl rfl ?_
            with_unfolding_all refine TX_guard_un rfl rfl ?_
            with_unfolding_all refine TX_guard_un rfl rfl ?_
            with_unfolding_all refine TX_guard_no_f rfl rfl rfl ?_
            with_unfolding_all refine TX_guard_no_f rfl rfl rfl ?_
            with_unfolding_all refine TX_pick_t rfl rfl rfl ?_
            with_unfolding_all refine TX_nil ?_
            exact joinQ_normal ⟨s154, (hO155.sub 0 rfl), (Le_fr ⟨rfl, ⟨rfl, ⟨rfl, ⟨rfl, ⟨rfl, ⟨rfl, ⟨rfl, ⟨rfl, ⟨rfl, ⟨rfl, ⟨rfl, ⟨rfl, trivial⟩⟩⟩⟩⟩⟩⟩⟩⟩⟩⟩⟩)⟩
          · skip
            replace h118 := or_f hc156 h118
            with_unfolding_all refine TX_move rfl ?_
            with_unfolding_all refine TX_guard_yes rfl rfl hc156 ?_
            with_unfolding_all refine TX_cmp rfl rfl rfl ?_
            with_unfolding_all refine TX_pick_f rfl hc156 rfl ?_
            obtain rfl := some_s h118
            with_unfolding_all refine TX_move rfl ?_
            with_unfolding_all refine TX_guard_f rfl rfl (fun hc157 => ?_) (fun hc157 => ?_)
            · skip
              replace h126 := ite_t hc157 h126
              obtain rfl := some_s h126
              with_unfolding_all refine TX_guard_no_f rfl rfl hc157 ?_
              with_unfolding_all refine TX_guard_no_f rfl rfl hc157 ?_
              with_unfolding_all refine TX_guard_no_f rfl rfl hc157 ?_
              with_unfolding_all refine TX_guard_no_f rfl rfl hc157 ?_
              with_unfolding_all refine TX_guard_no_f rfl rfl hc157 ?_
              with_unfolding_all refine TX_guard_no_f rfl rfl hc157 ?_
              with_unfolding_all refine TX_guard_no_f rfl rfl hc157 ?_
              with_unfolding_all refine TX_pick_t rfl hc157 rfl ?_
              with_unfolding_all refine TX_move rfl ?_
              replace h136 := ite_t rfl h136
              obtain rfl := some_s h136
              with_unfolding_all refine TX_guard_no_f rfl rfl rfl ?_
              with_unfolding_all refine TX_guard_no_f rfl rfl rfl ?_
              with_unfolding_all refine TX_guard_no_f rfl rfl rfl ?_
              with_unfolding_all refine TX_guard_no_f rfl rfl rfl ?_
              with_unfolding_all refine TX_guard_no_f rfl rfl rfl ?_
              with_unfolding_all refine TX_guard_no_f rfl rfl rfl ?_
              with_unfolding_all refine TX_guard_un rfl rfl ?_
              with_unfolding_all refine TX_guard_un rfl rfl ?_
              with_unfolding_all refine TX_guard_un rfl rfl ?_
              with_unfolding_all refine TX_guard_no_f rfl rfl rfl ?_
              with_unfolding_all refine TX_guard_no_f rfl rfl rfl ?_
              with_unfolding_all refine TX_pick_t rfl rfl rfl ?_
              with_unfolding_all refine TX_nil ?_
              exact joinQ_normal ⟨s154, (hO155.sub 0 rfl), (Le_fr ⟨rfl, ⟨rfl, ⟨rfl, ⟨rfl, ⟨rfl, ⟨rfl, ⟨rfl, ⟨rfl, ⟨rfl, ⟨rfl, ⟨rfl, ⟨rfl, trivial⟩⟩⟩⟩⟩⟩⟩⟩⟩⟩⟩⟩)⟩
            · skip
              replace h126 := ite_f hc157 h126
              obtain ⟨x119, h120, h126⟩ := bind_s h126
              obtain ⟨x121, h122, h126⟩ := bind_s h126
              obtain ⟨x123, h124, h126⟩ := bind_s h126
              with_unfolding_all refine TX_move rfl ?_
              with_unfolding_all refine TX_guard_yes rfl rfl hc157 ?_
              have h158 : All2 e_match_Match.rel ([] : List AV) ([] : (List match_Match)) := trivial
              with_unfolding_all refine TY_buildSlice rfl rfl rfl rfl rfl h158 rfl (by decide) (by with_unfolding_all exact Nat.le_of_ble_eq_true rfl) ?_
              have h159 : RS e_match_Match (.sl [] .full) ([] : (List match_Match)) := RS.of h158
              with_unfolding_all refine TX_guard_yes rfl rfl hc157 ?_
              with_unfolding_all refine TX_move rfl ?_
              with_unfolding_all refine TX_guard_yes rfl rfl hc157 ?_
              have hO160 : Own σ [] s154 [.buf (.sl [] .full)] := hO155.bufFull []
              with_unfolding_all refine TY_append appT22_22 hO160 hM153 rfl rfl rfl rfl h159 rfl h0_ h120 ?_
              rintro u161 s163 (h162 : RS e_match_Match u161 x119) (hO164 : Own σ [] s163 [.buf u161]) hM165
              with_unfolding_all refine TX_guard_yes rfl rfl hc157 ?_
              with_unfolding_all refine TX_move rfl ?_
              with_unfolding_all refine TX_guard_yes rfl rfl hc157 ?_
              with_unfolding_all refine TY_append appT22_22 hO164 hM165 rfl rfl rfl rfl h162 rfl h1_ h122 ?_
              rintro u166 s168 (h167 : RS e_match_Match u166 x121) (hO169 : Own σ [] s168 [.buf u166]) hM170
              with_unfolding_all refine TX_guard_yes rfl rfl hc157 ?_
              have hc171 : CallE Try.prog 16 [v52, u166] s168 _ := law12_Same_ok h124 h54 h167
              with_unfolding_all refine TY_call hM170 rfl en16 hc171 ?_
              intro v172 s176 hv173 hX174 hM175
              have hO177 := hO169.ext_call hX174
              obtain rfl := hv173
              with_unfolding_all refine TX_guard_yes rfl rfl hc157 ?_
              with_unfolding_all refine TX_not rfl ?_
              with_unfolding_all refine TX_pick_f rfl hc157 rfl ?_
              obtain rfl := some_s h126
              with_unfolding_all refine TX_move rfl ?_
              with_unfolding_all refine TX_guard_f rfl rfl (fun hc178 => ?_) (fun hc178 => ?_)
              · skip
                replace h136 := ite_t hc178 h136
                obtain rfl := some_s h136
                with_unfolding_all refine TX_guard_no_f rfl rfl hc178 ?_
                with_unfolding_all refine TX_guard_no_f rfl rfl hc178 ?_
                with_unfolding_all refine TX_guard_no_f rfl rfl hc178 ?_
                with_unfolding_all refine TX_guard_no_f rfl rfl hc178 ?_
                with_unfolding_all refine TX_guard_no_f rfl rfl hc178 ?_
                with_unfolding_all refine TX_guard_un rfl rfl ?_
                with_unfolding_all refine TX_guard_un rfl rfl ?_
                with_unfolding_all refine TX_guard_un rfl rfl ?_
                with_unfolding_all refine TX_guard_no_f rfl rfl hc178 ?_
                with_unfolding_all refine TX_guard_no_f rfl rfl hc178 ?_
                with_unfolding_all refine TX_pick_t rfl hc178 rfl ?_
                with_unfolding_all refine TX_nil ?_
                exact joinQ_normal ⟨s176, (hO177.sub 0 rfl), (Le_fr ⟨rfl, ⟨rfl, ⟨rfl, ⟨rfl, ⟨rfl, ⟨rfl, ⟨rfl, ⟨rfl, ⟨rfl, ⟨rfl, ⟨rfl, ⟨rfl, trivial⟩⟩⟩⟩⟩⟩⟩⟩⟩⟩⟩⟩)⟩
              · skip
                replace h136 := ite_f hc178 h136
                obtain ⟨x127, h128, h136⟩ := bind_s h136
                obtain ⟨x129, h130, h136⟩ := bind_s h136
                obtain ⟨r133, h134, h136⟩ := bind_s h136
                with_unfolding_all refine TX_move rfl ?_
                with_unfolding_all refine TX_guard_yes rfl rfl hc178 ?_
                have hc179 : CallE Try.prog 24 [v52] s176 _ := match_Holds_ok h128 h54
                with_unfolding_all refine TY_call hM175 rfl en24 hc179 ?_
                intro v180 s184 hv181 hX182 hM183
                have hO185 := hO177.ext_call hX182
                obtain rfl := hv181
                with_unfolding_all refine TX_guard_yes rfl rfl hc178 ?_
                with_unfolding_all refine TX_move rfl ?_
                with_unfolding_all refine TX_guard_yes rfl rfl hc178 ?_
                with_unfolding_all refine TX_move rfl ?_
                with_unfolding_all refine TX_guard_yes rfl rfl hc178 ?_
                have hc186 : CallE Try.prog 23 [v0_] s184 _ := law12_MatchJoins_1_ok h130 h0_
                with_unfolding_all refine TY_call hM183 rfl en23 hc186 ?_
                intro v187 s191 hv188 hX189 hM190
                have hO192 := hO185.ext_call hX189
                obtain rfl := hv188
                with_unfolding_all refine TX_guard_yes rfl rfl hc178 ?_
                with_unfolding_all refine TX_move rfl ?_
                with_unfolding_all refine TX_guard_f rfl rfl (fun hc193 => ?_) (fun hc193 => ?_)
                · skip
                  replace h134 := ite_t hc193 h134
                  obtain rfl := some_s h134
                  with_unfolding_all refine TX_guard_no_f rfl rfl hc193 ?_
                  with_unfolding_all refine TX_guard_no_f rfl rfl hc193 ?_
                  with_unfolding_all refine TX_guard_yes rfl rfl hc178 ?_
                  with_unfolding_all refine TX_pick_t rfl hc193 rfl ?_
                  with_unfolding_all refine TX_guard_yes rfl rfl hc178 ?_
                  with_unfolding_all refine TX_bne rfl rfl rfl ?_
                  with_unfolding_all refine TX_pick_f rfl hc178 rfl ?_
                  obtain rfl := some_s h136
                  with_unfolding_all refine TX_nil ?_
                  exact joinQ_normal ⟨s191, (hO192.sub 0 rfl), (Le_fr ⟨rfl, ⟨rfl, ⟨rfl, ⟨rfl, ⟨rfl, ⟨rfl, ⟨rfl, ⟨rfl, ⟨rfl, ⟨rfl, ⟨rfl, ⟨rfl, trivial⟩⟩⟩⟩⟩⟩⟩⟩⟩⟩⟩⟩)⟩
                · skip
                  replace h134 := ite_f hc193 h134
                  obtain ⟨x131, h132, h134⟩ := bind_s h134
                  with_unfolding_all refine TX_move rfl ?_
                  with_unfolding_all refine TX_guard_yes rfl rfl hc193 ?_
                  with_unfolding_all refine TX_move rfl ?_
                  with_unfolding_all refine TX_guard_yes rfl rfl hc193 ?_
                  have hc194 : CallE Try.prog 23 [v1_] s191 _ := law12_MatchJoins_1_ok h132 h1_
                  with_unfolding_all refine TY_call hM190 rfl en23 hc194 ?_
                  intro v195 s199 hv196 hX197 hM198
                  have hO200 := hO192.ext_call hX197
                  obtain rfl := hv196
                  with_unfolding_all refine TX_guard_yes rfl rfl hc178 ?_
                  with_unfolding_all refine TX_pick_f rfl hc193 rfl ?_
                  obtain rfl := some_s h134
                  with_unfolding_all refine TX_guard_yes rfl rfl hc178 ?_
                  with_unfolding_all refine TX_bne rfl rfl rfl ?_
                  with_unfolding_all refine TX_pick_f rfl hc178 rfl ?_
                  obtain rfl := some_s h136
                  with_unfolding_all refine TX_nil ?_
                  exact joinQ_normal ⟨s199, (hO200.sub 0 rfl), (Le_fr ⟨rfl, ⟨rfl, ⟨rfl, ⟨rfl, ⟨rfl, ⟨rfl, ⟨rfl, ⟨rfl, ⟨rfl, ⟨rfl, ⟨rfl, ⟨rfl, trivial⟩⟩⟩⟩⟩⟩⟩⟩⟩⟩⟩⟩)⟩
        · skip
          rintro zj137 ⟨s138, hO139, hz140⟩
          with_unfolding_all refine thenQ_normal ?_
          refine TE_pre hz140 ?_
          with_unfolding_all refine TE_cond rfl (fun hc201 => ?_) (fun hc201 => ?_)
          · skip
            replace hF := ite_t hc201 hF
            with_unfolding_all refine TE_seq ?_
            with_unfolding_all refine TE_seqY ?_
            have hM202 := MB_none s138
            with_unfolding_all refine TX_assign rfl ?_
            with_unfolding_all refine TX_nil ?_
            with_unfolding_all refine thenQ_normal ?_
            with_unfolding_all refine TE_ret ?_
            with_unfolding_all refine thenQ_ret ?_
            obtain rfl := some_s hF
            exact done_any (vs := [.bool (false)]) (.inr rfl) rfl (resR_tmp rfl resR_nil) ⟨rfl, hO139.ext⟩
          · skip
            replace hF := ite_f hc201 hF
            with_unfolding_all refine TE_skip ?_
            with_unfolding_all refine thenQ_normal ?_
            with_unfolding_all refine TE_seq ?_
            with_unfolding_all refine TE_seq ?_
            obtain ⟨r217, h218, hF⟩ := bind_s hF
            obtain ⟨r223, h224, hF⟩ := bind_s hF
            refine TE_cutQ (fun z => ∃ (s226 : Mem), Own σ [] s226 [] ∧ Le z ⟨fr 156 [(0, v0_), (9, v80), (10, .int .i64 (x70.2)), (13, v108), (14, .bool (x98.2)), (15, .fn (.func 23) [] []), (123, .bool (r223))], [], s226⟩) ?_ ?_
            · skip
              with_unfolding_all refine TE_seqY ?_
              have hM229 := MB_none s138
              with_unfolding_all refine TX_move rfl ?_
              with_unfolding_all refine TX_move rfl ?_
              with_unfolding_all refine TX_guard_t rfl rfl (fun hc230 => ?_) (fun hc230 => ?_)
              · skip
                replace h218 := ite_t hc230 h218
                obtain ⟨r205, h206, h218⟩ := bind_s h218
                obtain ⟨r215, h216, h218⟩ := bind_s h218
                with_unfolding_all refine TX_move rfl ?_
                with_unfolding_all refine TX_guard_yes rfl rfl hc230 ?_
                with_unfolding_all refine TX_cmp rfl rfl rfl ?_
                with_unfolding_all refine TX_guard_yes rfl rfl hc230 ?_
                with_unfolding_all refine TX_move rfl ?_
                with_unfolding_all refine TX_guard_f rfl rfl (fun hc231 => ?_) (fun hc231 => ?_)
                · skip
                  replace h206 := ite_t hc231 h206
                  obtain rfl := some_s h206
                  with_unfolding_all refine TX_guard_no_f rfl rfl hc231 ?_
                  with_unfolding_all refine TX_guard_no_f rfl rfl hc231 ?_
                  with_unfolding_all refine TX_guard_no_f rfl rfl hc231 ?_
                  with_unfolding_all refine TX_guard_yes rfl rfl hc230 ?_
                  with_unfolding_all refine TX_pick_t rfl hc231 rfl ?_
                  with_unfolding_all refine TX_guard_yes rfl rfl hc230 ?_
                  with_unfolding_all refine TX_move rfl ?_
                  replace h216 := ite_t rfl h216
                  obtain rfl := some_s h216
                  with_unfolding_all refine TX_guard_no_f rfl rfl rfl ?_
                  with_unfolding_all refine TX_guard_no_f rfl rfl rfl ?_
                  with_unfolding_all refine TX_guard_no_f rfl rfl rfl ?_
                  with_unfolding_all refine TX_guard_no_f rfl rfl rfl ?_
                  with_unfolding_all refine TX_guard_no_f rfl rfl rfl ?_
                  with_unfolding_all refine TX_guard_no_f rfl rfl rfl ?_
                  with_unfolding_all refine TX_guard_un rfl rfl ?_
                  with_unfolding_all refine TX_guard_un rfl rfl ?_
                  with_unfolding_all refine TX_guard_un rfl rfl ?_
                  with_unfolding_all refine TX_guard_no_f rfl rfl rfl ?_
                  with_unfolding_all refine TX_guard_no_f rfl rfl rfl ?_
                  with_unfolding_all refine TX_guard_yes rfl rfl hc230 ?_
                  with_unfolding_all refine TX_pick_t rfl rfl rfl ?_
                  with_unfolding_all refine TX_pick_t rfl hc230 rfl ?_
                  obtain rfl := some_s h218
                  with_unfolding_all refine TX_move rfl ?_
                  replace h224 := ite_t rfl h224
                  obtain rfl := some_s h224
                  with_unfolding_all refine TX_guard_no_f rfl rfl rfl ?_
                  with_unfolding_all refine TX_guard_no_f rfl rfl rfl ?_
                  with_unfolding_all refine TX_guard_no_f rfl rfl rfl ?_
                  with_unfolding_all refine TX_guard_un rfl rfl ?_
                  with_unfolding_all refine TX_guard_un rfl rfl ?_
                  with_unfolding_all refine TX_guard_un rfl rfl ?_
                  with_unfolding_all refine TX_guard_un rfl rfl ?_
                  with_unfolding_all refine TX_guard_un rfl rfl ?_
                  with_unfolding_all refine TX_guard_un rfl rfl ?_
                  with_unfolding_all refine TX_guard_un rfl rfl ?_
                  with_unfolding_all refine TX_guard_no_f rfl rfl rfl ?_
                  with_unfolding_all refine TX_pick_t rfl rfl rfl ?_
                  with_unfolding_all refine TX_nil ?_
                  exact joinQ_normal ⟨s138, (hO139.sub 0 rfl), (Le_fr ⟨rfl, ⟨rfl, ⟨rfl, ⟨rfl, ⟨rfl, ⟨rfl, ⟨rfl, trivial⟩⟩⟩⟩⟩⟩⟩)⟩
                · skip
                  replace h206 := ite_f hc231 h206
                  obtain ⟨x203, h204, h206⟩ := bind_s h206
                  with_unfolding_all refine TX_move rfl ?_
                  with_unfolding_all refine TX_guard_yes rfl rfl hc231 ?_
                  with_unfolding_all refine TX_move rfl ?_
                  with_unfolding_all refine TX_guard_yes rfl rfl hc231 ?_
                  have hc232 : CallE Try.prog 16 [v66, v94] s138 _ := law12_Same_ok h204 h68 h96
                  with_unfolding_all refine TY_call hM229 rfl en16 hc232 ?_
                  intro v233 s237 hv234 hX235 hM236
                  have hO238 := hO139.ext_call hX235
                  obtain rfl := hv234
                  with_unfolding_all refine TX_guard_yes rfl rfl hc231 ?_
                  with_unfolding_all refine TX_not rfl ?_
                  with_unfolding_all refine TX_guard_yes rfl rfl hc230 ?_
                  with_unfolding_all refine TX_pick_f rfl hc231 rfl ?_
                  obtain rfl := some_s h206
                  with_unfolding_all refine TX_guard_yes rfl rfl hc230 ?_
                  with_unfolding_all refine TX_move rfl ?_
                  with_unfolding_all refine TX_guard_f rfl rfl (fun hc239 => ?_) (fun hc239 => ?_)
                  · skip
                    replace h216 := ite_t hc239 h216
                    obtain rfl := some_s h216
                    with_unfolding_all refine TX_guard_no_f rfl rfl hc239 ?_
                    with_unfolding_all refine TX_guard_no_f rfl rfl hc239 ?_
                    with_unfolding_all refine TX_guard_no_f rfl rfl hc239 ?_
                    with_unfolding_all refine TX_guard_no_f rfl rfl hc239 ?_
                    with_unfolding_all refine TX_guard_no_f rfl rfl hc239 ?_
                    with_unfolding_all refine TX_guard_un rfl rfl ?_
                    with_unfolding_all refine TX_guard_un rfl rfl ?_
                    with_unfolding_all refine TX_guard_un rfl rfl ?_
                    with_unfolding_all refine TX_guard_no_f rfl rfl hc239 ?_
                    with_unfolding_all refine TX_guard_no_f rfl rfl hc239 ?_
                    with_unfolding_all refine TX_guard_yes rfl rfl hc230 ?_
                    with_unfolding_all refine TX_pick_t rfl hc239 rfl ?_
                    with_unfolding_all refine TX_pick_t rfl hc230 rfl ?_
                    obtain rfl := some_s h218
                    with_unfolding_all refine TX_move rfl ?_
                    replace h224 := ite_t rfl h224
                    obtain rfl := some_s h224
                    with_unfolding_all refine TX_guard_no_f rfl rfl rfl ?_
                    with_unfolding_all refine TX_guard_no_f rfl rfl rfl ?_
                    with_unfolding_all refine TX_guard_no_f rfl rfl rfl ?_
                    with_unfolding_all refine TX_guard_un rfl rfl ?_
                    with_unfolding_all refine TX_guard_un rfl rfl ?_
                    with_unfolding_all refine TX_guard_un rfl rfl ?_
                    with_unfolding_all refine TX_guard_un rfl rfl ?_
                    with_unfolding_all refine TX_guard_un rfl rfl ?_
                    with_unfolding_all refine TX_guard_un rfl rfl ?_
                    with_unfolding_all refine TX_guard_un rfl rfl ?_
                    with_unfolding_all refine TX_guard_no_f rfl rfl rfl ?_
                    with_unfolding_all refine TX_pick_t rfl rfl rfl ?_
                    with_unfolding_all refine TX_nil ?_
                    exact joinQ_normal ⟨s237, (hO238.sub 0 rfl), (Le_fr ⟨rfl, ⟨rfl, ⟨rfl, ⟨rfl, ⟨rfl, ⟨rfl, ⟨rfl, trivial⟩⟩⟩⟩⟩⟩⟩)⟩
                  · skip
                    replace h216 := ite_f hc239 h216
                    obtain ⟨x207, h208, h216⟩ := bind_s h216
                    obtain ⟨x209, h210, h216⟩ := bind_s h216
                    obtain ⟨r213, h214, h216⟩ := bind_s h216
                    with_unfolding_all refine TX_move rfl ?_
                    with_unfolding_all refine TX_guard_yes rfl rfl hc239 ?_
                    have hc240 : CallE Try.prog 24 [v66] s237 _ := match_Holds_ok h208 h68
                    with_unfolding_all refine TY_call hM236 rfl en24 hc240 ?_
                    intro v241 s245 hv242 hX243 hM244
                    have hO246 := hO238.ext_call hX243
                    obtain rfl := hv242
                    with_unfolding_all refine TX_guard_yes rfl rfl hc239 ?_
                    with_unfolding_all refine TX_move rfl ?_
                    with_unfolding_all refine TX_guard_yes rfl rfl hc239 ?_
                    with_unfolding_all refine TX_move rfl ?_
                    with_unfolding_all refine TX_guard_yes rfl rfl hc239 ?_
                    have hc247 : CallE Try.prog 23 [v0_] s245 _ := law12_MatchJoins_1_ok h210 h0_
                    with_unfolding_all refine TY_call hM244 rfl en23 hc247 ?_
                    intro v248 s252 hv249 hX250 hM251
                    have hO253 := hO246.ext_call hX250
                    obtain rfl := hv249
                    with_unfolding_all refine TX_guard_yes rfl rfl hc239 ?_
                    with_unfolding_all refine TX_move rfl ?_
                    with_unfolding_all refine TX_guard_t rfl rfl (fun hc254 => ?_) (fun hc254 => ?_)
                    · skip
                      replace h214 := ite_t hc254 h214
                      obtain ⟨x211, h212, h214⟩ := bind_s h214
                      with_unfolding_all refine TX_move rfl ?_
                      with_unfolding_all refine TX_guard_yes rfl rfl hc254 ?_
                      with_unfolding_all refine TX_move rfl ?_
                      with_unfolding_all refine TX_guard_yes rfl rfl hc254 ?_
                      have hc255 : CallE Try.prog 23 [v1_] s252 _ := law12_MatchJoins_1_ok h212 h1_
                      with_unfolding_all refine TY_call hM251 rfl en23 hc255 ?_
                      intro v256 s260 hv257 hX258 hM259
                      have hO261 := hO253.ext_call hX258
                      obtain rfl := hv257
                      with_unfolding_all refine TX_guard_yes rfl rfl hc239 ?_
                      with_unfolding_all refine TX_pick_t rfl hc254 rfl ?_
                      obtain rfl := some_s h214
                      with_unfolding_all refine TX_guard_yes rfl rfl hc239 ?_
                      with_unfolding_all refine TX_bne rfl rfl rfl ?_
                      with_unfolding_all refine TX_guard_yes rfl rfl hc230 ?_
                      with_unfolding_all refine TX_pick_f rfl hc239 rfl ?_
                      obtain rfl := some_s h216
                      with_unfolding_all refine TX_pick_t rfl hc230 rfl ?_
                      obtain rfl := some_s h218
                      with_unfolding_all refine TX_move rfl ?_
                      with_unfolding_all refine TX_guard_f rfl rfl (fun hc262 => ?_) (fun hc262 => ?_)
                      · skip
                        replace h224 := ite_t hc262 h224
                        obtain rfl := some_s h224
                        with_unfolding_all refine TX_guard_no_f rfl rfl hc262 ?_
                        with_unfolding_all refine TX_guard_no_f rfl rfl hc262 ?_
                        with_unfolding_all refine TX_guard_un rfl rfl ?_
                        with_unfolding_all refine TX_guard_un rfl rfl ?_
                        with_unfolding_all refine TX_guard_un rfl rfl ?_
                        with_unfolding_all refine TX_guard_un rfl rfl ?_
                        with_unfolding_all refine TX_guard_un rfl rfl ?_
                        with_unfolding_all refine TX_guard_un rfl rfl ?_
                        with_unfolding_all refine TX_guard_un rfl rfl ?_
                        with_unfolding_all refine TX_guard_no_f rfl rfl hc262 ?_
                        with_unfolding_all refine TX_pick_t rfl hc262 rfl ?_
                        with_unfolding_all refine TX_nil ?_
                        exact joinQ_normal ⟨s260, (hO261.sub 0 rfl), (Le_fr ⟨rfl, ⟨rfl, ⟨rfl, ⟨rfl, ⟨rfl, ⟨rfl, ⟨rfl, trivial⟩⟩⟩⟩⟩⟩⟩)⟩
                      · skip
                        replace h224 := ite_f hc262 h224
                        obtain ⟨r221, h222, h224⟩ := bind_s h224
                        with_unfolding_all refine TX_move rfl ?_
                        with_unfolding_all refine TX_guard_yes rfl rfl hc262 ?_
                        with_unfolding_all refine TX_not rfl ?_
                        with_unfolding_all refine TX_guard_yes rfl rfl hc262 ?_
                        with_unfolding_all refine TX_move rfl ?_
                        with_unfolding_all refine TX_guard_t rfl rfl (fun hc263 => ?_) (fun hc263 => ?_)
                        · skip
                          replace h222 := ite_t hc263 h222
                          obtain ⟨r219, h220, h222⟩ := bind_s h222
                          with_unfolding_all refine TX_move rfl ?_
                          with_unfolding_all refine TX_guard_yes rfl rfl hc263 ?_
                          with_unfolding_all refine TX_cmp rfl rfl rfl ?_
                          with_unfolding_all refine TX_guard_yes rfl rfl hc263 ?_
                          with_unfolding_all refine TX_move rfl ?_
                          with_unfolding_all refine TX_guard_f rfl rfl (fun hc264 => ?_) (fun hc264 => ?_)
                          · skip
                            replace h220 := or_t hc264 h220
                            obtain rfl := some_s h220
                            with_unfolding_all refine TX_guard_no_f rfl rfl hc264 ?_
                            with_unfolding_all refine TX_guard_no_f rfl rfl hc264 ?_
                            with_unfolding_all refine TX_guard_yes rfl rfl hc263 ?_
                            with_unfolding_all refine TX_pick_t rfl hc264 rfl ?_
                            with_unfolding_all refine TX_guard_yes rfl rfl hc262 ?_
                            with_unfolding_all refine TX_pick_t rfl hc263 rfl ?_
                            obtain rfl := some_s h222
                            with_unfolding_all refine TX_pick_f rfl hc262 rfl ?_
                            obtain rfl := some_s h224
                            with_unfolding_all refine TX_nil ?_
                            exact joinQ_normal ⟨s260, (hO261.sub 0 rfl), (Le_fr ⟨rfl, ⟨rfl, ⟨rfl, ⟨rfl, ⟨rfl, ⟨rfl, ⟨rfl, trivial⟩⟩⟩⟩⟩⟩⟩)⟩
                          · skip
                            replace h220 := or_f hc264 h220
                            with_unfolding_all refine TX_move rfl ?_
                            with_unfolding_all refine TX_guard_yes rfl rfl hc264 ?_
                            with_unfolding_all refine TY_len rfl rfl rfl rfl h68 rfl ?_
                            with_unfolding_all refine TX_guard_yes rfl rfl hc264 ?_
                            with_unfolding_all refine TX_cmp rfl rfl rfl ?_
                            with_unfolding_all refine TX_guard_yes rfl rfl hc263 ?_
                            with_unfolding_all refine TX_pick_f rfl hc264 rfl ?_
                            obtain rfl := some_s h220
                            with_unfolding_all refine TX_guard_yes rfl rfl hc262 ?_
                            with_unfolding_all refine TX_pick_t rfl hc263 rfl ?_
                            obtain rfl := some_s h222
                            with_unfolding_all refine TX_pick_f rfl hc262 rfl ?_
                            obtain rfl := some_s h224
                            with_unfolding_all refine TX_nil ?_
                            exact joinQ_normal ⟨s260, (hO261.sub 0 rfl), (Le_fr ⟨rfl, ⟨rfl, ⟨rfl, ⟨rfl, ⟨rfl, ⟨rfl, ⟨rfl, trivial⟩⟩⟩⟩⟩⟩⟩)⟩
                        · skip
                          replace h222 := ite_f hc263 h222
                          obtain rfl := some_s h222
                          with_unfolding_all refine TX_guard_no_t rfl rfl hc263 ?_
                          with_unfolding_all refine TX_guard_no_t rfl rfl hc263 ?_
                          with_unfolding_all refine TX_guard_un rfl rfl ?_
                          with_unfolding_all refine TX_guard_un rfl rfl ?_
                          with_unfolding_all refine TX_guard_un rfl rfl ?_
                          with_unfolding_all refine TX_guard_no_t rfl rfl hc263 ?_
                          with_unfolding_all refine TX_guard_yes rfl rfl hc262 ?_
                          with_unfolding_all refine TX_pick_f rfl hc263 rfl ?_
                          with_unfolding_all refine TX_pick_f rfl hc262 rfl ?_
                          obtain rfl := some_s h224
                          with_unfolding_all refine TX_nil ?_
                          exact joinQ_normal ⟨s260, (hO261.sub 0 rfl), (Le_fr ⟨rfl, ⟨rfl, ⟨rfl, ⟨rfl, ⟨rfl, ⟨rfl, ⟨rfl, trivial⟩⟩⟩⟩⟩⟩⟩)⟩
                    · skip
                      replace h214 := ite_f hc254 h214
                      obtain rfl := some_s h214
                      with_unfolding_all refine TX_guard_no_t rfl rfl hc254 ?_
                      with_unfolding_all refine TX_guard_no_t rfl rfl hc254 ?_
                      with_unfolding_all refine TX_guard_yes rfl rfl hc239 ?_
                      with_unfolding_all refine TX_pick_f rfl hc254 rfl ?_
                      with_unfolding_all refine TX_guard_yes rfl rfl hc239 ?_
                      with_unfolding_all refine TX_bne rfl rfl rfl ?_
                      with_unfolding_all refine TX_guard_yes rfl rfl hc230 ?_
                      with_unfolding_all refine TX_pick_f rfl hc239 rfl ?_
                      obtain rfl := some_s h216
                      with_unfolding_all refine TX_pick_t rfl hc230 rfl ?_
                      obtain rfl := some_s h218
                      with_unfolding_all refine TX_move rfl ?_
                      with_unfolding_all refine TX_guard_f rfl rfl (fun hc265 => ?_) (fun hc265 => ?_)
                      · skip
                        replace h224 := ite_t hc265 h224
                        obtain rfl := some_s h224
                        with_unfolding_all refine TX_guard_no_f rfl rfl hc265 ?_
                        with_unfolding_all refine TX_guard_no_f rfl rfl hc265 ?_
                        with_unfolding_all refine TX_guard_un rfl rfl ?_
                        with_unfolding_all refine TX_guard_un rfl rfl ?_
                        with_unfolding_all refine TX_guard_un rfl rfl ?_
                        with_unfolding_all refine TX_guard_un rfl rfl ?_
                        with_unfolding_all refine TX_guard_un rfl rfl ?_
                        with_unfolding_all refine TX_guard_un rfl rfl ?_
                        with_unfolding_all refine TX_guard_un rfl rfl ?_
                        with_unfolding_all refine TX_guard_no_f rfl rfl hc265 ?_
                        with_unfolding_all refine TX_pick_t rfl hc265 rfl ?_
                        with_unfolding_all refine TX_nil ?_
                        exact joinQ_normal ⟨s252, (hO253.sub 0 rfl), (Le_fr ⟨rfl, ⟨rfl, ⟨rfl, ⟨rfl, ⟨rfl, ⟨rfl, ⟨rfl, trivial⟩⟩⟩⟩⟩⟩⟩)⟩
                      · skip
                        replace h224 := ite_f hc265 h224
                        obtain ⟨r221, h222, h224⟩ := bind_s h224
                        with_unfolding_all refine TX_move rfl ?_
                        with_unfolding_all refine TX_guard_yes rfl rfl hc265 ?_
                        with_unfolding_all refine TX_not rfl ?_
                        with_unfolding_all refine TX_guard_yes rfl rfl hc265 ?_
                        with_unfolding_all refine TX_move rfl ?_
                        with_unfolding_all refine TX_guard_t rfl rfl (fun hc266 => ?_) (fun hc266 => ?_)
                        · skip
                          replace h222 := ite_t hc266 h222
                          obtain ⟨r219, h220, h222⟩ := bind_s h222
                          with_unfolding_all refine TX_move rfl ?_
                          with_unfolding_all refine TX_guard_yes rfl rfl hc266 ?_
                          with_unfolding_all refine TX_cmp rfl rfl rfl ?_
                          with_unfolding_all refine TX_guard_yes rfl rfl hc266 ?_
                          with_unfolding_all refine TX_move rfl ?_
                          with_unfolding_all refine TX_guard_f rfl rfl (fun hc267 => ?_) (fun hc267 => ?_)
                          · skip
                            replace h220 := or_t hc267 h220
                            obtain rfl := some_s h220
                            with_unfolding_all refine TX_guard_no_f rfl rfl hc267 ?_
                            with_unfolding_all refine TX_guard_no_f rfl rfl hc267 ?_
                            with_unfolding_all refine TX_guard_yes rfl rfl hc266 ?_
                            with_unfolding_all refine TX_pick_t rfl hc267 rfl ?_
                            with_unfolding_all refine TX_guard_yes rfl rfl hc265 ?_
                            with_unfolding_all refine TX_pick_t rfl hc266 rfl ?_
                            obtain rfl := some_s h222
                            with_unfolding_all refine TX_pick_f rfl hc265 rfl ?_
                            obtain rfl := some_s h224
                            with_unfolding_all refine TX_nil ?_
                            exact joinQ_normal ⟨s252, (hO253.sub 0 rfl), (Le_fr ⟨rfl, ⟨rfl, ⟨rfl, ⟨rfl, ⟨rfl, ⟨rfl, ⟨rfl, trivial⟩⟩⟩⟩⟩⟩⟩)⟩
                          · skip
                            replace h220 := or_f hc267 h220
                            with_unfolding_all refine TX_move rfl ?_
                            with_unfolding_all refine TX_guard_yes rfl rfl hc267 ?_
                            with_unfolding_all refine TY_len rfl rfl rfl rfl h68 rfl ?_
                            with_unfolding_all refine TX_guard_yes rfl rfl hc267 ?_
                            with_unfolding_all refine TX_cmp rfl rfl rfl ?_
                            with_unfolding_all refine TX_guard_yes rfl rfl hc266 ?_
                            with_unfolding_all refine TX_pick_f rfl hc267 rfl ?_
                            obtain rfl := some_s h220
                            with_unfolding_all refine TX_guard_yes rfl rfl hc265 ?_
                            with_unfolding_all refine TX_pick_t rfl hc266 rfl ?_
                            obtain rfl := some_s h222
                            with_unfolding_all refine TX_pick_f rfl hc265 rfl ?_
                            obtain rfl := some_s h224
                            with_unfolding_all refine TX_nil ?_
                            exact joinQ_normal ⟨s252, (hO253.sub 0 rfl), (Le_fr ⟨rfl, ⟨rfl, ⟨rfl, ⟨rfl, ⟨rfl, ⟨rfl, ⟨rfl, trivial⟩⟩⟩⟩⟩⟩⟩)⟩
                        · skip
                          replace h222 := ite_f hc266 h222
                          obtain rfl := some_s h222
                          with_unfolding_all refine TX_guard_no_t rfl rfl hc266 ?_
                          with_unfolding_all refine TX_guard_no_t rfl rfl hc266 ?_
                          with_unfolding_all refine TX_guard_un rfl rfl ?_
                          with_unfolding_all refine TX_guard_un rfl rfl ?_
                          with_unfolding_all refine TX_guard_un rfl rfl ?_
                          with_unfolding_all refine TX_guard_no_t rfl rfl hc266 ?_
                          with_unfolding_all refine TX_guard_yes rfl rfl hc265 ?_
                          with_unfolding_all refine TX_pick_f rfl hc266 rfl ?_
                          with_unfolding_all refine TX_pick_f rfl hc265 rfl ?_
                          obtain rfl := some_s h224
                          with_unfolding_all refine TX_nil ?_
                          exact joinQ_normal ⟨s252, (hO253.sub 0 rfl), (Le_fr ⟨rfl, ⟨rfl, ⟨rfl, ⟨rfl, ⟨rfl, ⟨rfl, ⟨rfl, trivial⟩⟩⟩⟩⟩⟩⟩)⟩
              · skip
                replace h218 := ite_f hc230 h218
                obtain rfl := some_s h218
                with_unfolding_all refine TX_guard_no_t rfl rfl hc230 ?_
                with_unfolding_all refine TX_guard_no_t rfl rfl hc230 ?_
                with_unfolding_all refine TX_guard_un rfl rfl ?_
                with_unfolding_all refine TX_guard_un rfl rfl ?_
                with_unfolding_all refine TX_guard_un rfl rfl ?_
                with_unfolding_all refine TX_guard_un rfl rfl ?_
                with_unfolding_all refine TX_guard_no_t rfl rfl hc230 ?_
                with_unfolding_all refine TX_guard_no_t rfl rfl hc230 ?_
                with_unfolding_all refine TX_guard_un rfl rfl ?_
                with_unfolding_all refine TX_guard_un rfl rfl ?_
                with_unfolding_all refine TX_guard_un rfl rfl ?_
                with_unfolding_all refine TX_guard_un rfl rfl ?_
                with_unfolding_all refine TX_guard_un rfl rfl ?_
                with_unfolding_all refine TX_guard_un rfl rfl ?_
                with_unfolding_all refine TX_guard_un rfl rfl ?_
                with_unfolding_all refine TX_guard_un rfl rfl ?_
                with_unfolding_all refine TX_guard_un rfl rfl ?_
                with_unfolding_all refine TX_guard_un rfl rfl ?_
                with_unfolding_all refine TX_guard_un rfl rfl ?_
                with_unfolding_all refine TX_guard_no_t rfl rfl hc230 ?_
                with_unfolding_all refine TX_pick_f rfl hc230 rfl ?_
                with_unfolding_all refine TX_move rfl ?_
                replace h224 := ite_f rfl h224
                obtain ⟨r221, h222, h224⟩ := bind_s h224
                with_unfolding_all refine TX_guard_yes rfl rfl rfl ?_
                with_unfolding_all refine TX_move rfl ?_
                with_unfolding_all refine TX_guard_yes rfl rfl rfl ?_
                with_unfolding_all refine TX_not rfl ?_
                with_unfolding_all refine TX_guard_yes rfl rfl rfl ?_
                with_unfolding_all refine TX_move rfl ?_
                with_unfolding_all refine TX_guard_t rfl rfl (fun hc268 => ?_) (fun hc268 => ?_)
                · skip
                  replace h222 := ite_t hc268 h222
                  obtain ⟨r219, h220, h222⟩ := bind_s h222
                  with_unfolding_all refine TX_move rfl ?_
                  with_unfolding_all refine TX_guard_yes rfl rfl hc268 ?_
                  with_unfolding_all refine TX_cmp rfl rfl rfl ?_
                  with_unfolding_all refine TX_guard_yes rfl rfl hc268 ?_
                  with_unfolding_all refine TX_move rfl ?_
                  with_unfolding_all refine TX_guard_f rfl rfl (fun hc269 => ?_) (fun hc269 => ?_)
                  · skip
                    replace h220 := or_t hc269 h220
                    obtain rfl := some_s h220
                    with_unfolding_all refine TX_guard_no_f rfl rfl hc269 ?_
                    with_unfolding_all refine TX_guard_no_f rfl rfl hc269 ?_
                    with_unfolding_all refine TX_guard_yes rfl rfl hc268 ?_
                    with_unfolding_all refine TX_pick_t rfl hc269 rfl ?_
                    with_unfolding_all refine TX_guard_yes rfl rfl rfl ?_
                    with_unfolding_all refine TX_pick_t rfl hc268 rfl ?_
                    obtain rfl := some_s h222
                    with_unfolding_all refine TX_pick_f rfl rfl rfl ?_
                    obtain rfl := some_s h224
                    with_unfolding_all refine TX_nil ?_
                    exact joinQ_normal ⟨s138, (hO139.sub 0 rfl), (Le_fr ⟨rfl, ⟨rfl, ⟨rfl, ⟨rfl, ⟨rfl, ⟨rfl, ⟨rfl, trivial⟩⟩⟩⟩⟩⟩⟩)⟩
                  · skip
                    replace h220 := or_f hc269 h220
                    with_unfolding_all refine TX_move rfl ?_
                    with_unfolding_all refine TX_guard_yes rfl rfl hc269 ?_
                    with_unfolding_all refine TY_len rfl rfl rfl rfl h68 rfl ?_
                    with_unfolding_all refine TX_guard_yes rfl rfl hc269 ?_
                    with_unfolding_all refine TX_cmp rfl rfl rfl ?_
                    with_unfolding_all refine TX_guard_yes rfl rfl hc268 ?_
                    with_unfolding_all refine TX_pick_f rfl hc269 rfl ?_
                    obtain rfl := some_s h220
                    with_unfolding_all refine TX_guard_yes rfl rfl rfl ?_
                    with_unfolding_all refine TX_pick_t rfl hc268 rfl ?_
                    obtain rfl := some_s h222
                    with_unfolding_all refine TX_pick_f rfl rfl rfl ?_
                    obtain rfl := some_s h224
                    with_unfolding_all refine TX_nil ?_
                    exact joinQ_normal ⟨s138, (hO139.sub 0 rfl), (Le_fr ⟨rfl, ⟨rfl, ⟨rfl, ⟨rfl, ⟨rfl, ⟨rfl, ⟨rfl, trivial⟩⟩⟩⟩⟩⟩⟩)⟩
                · skip
                  replace h222 := ite_f hc268 h222
                  obtain rfl := some_s h222
                  with_unfolding_all refine TX_guard_no_t rfl rfl hc268 ?_
                  with_unfolding_all refine TX_guard_no_t rfl rfl hc268 ?_
                  with_unfolding_all refine TX_guard_un rfl rfl ?_
                  with_unfolding_all refine TX_guard_un rfl rfl ?_
                  with_unfolding_all refine TX_guard_un rfl rfl ?_
                  with_unfolding_all refine TX_guard_no_t rfl rfl hc268 ?_
                  with_unfolding_all refine TX_guard_yes rfl rfl rfl ?_
                  with_unfolding_all refine TX_pick_f rfl hc268 rfl ?_
                  with_unfolding_all refine TX_pick_f rfl rfl rfl ?_
                  obtain rfl := some_s h224
                  with_unfolding_all refine TX_nil ?_
                  exact joinQ_normal ⟨s138, (hO139.sub 0 rfl), (Le_fr ⟨rfl, ⟨rfl, ⟨rfl, ⟨rfl, ⟨rfl, ⟨rfl, ⟨rfl, trivial⟩⟩⟩⟩⟩⟩⟩)⟩
            · skip
              rintro zj225 ⟨s226, hO227, hz228⟩
              with_unfolding_all refine thenQ_normal ?_
              refine TE_pre hz228 ?_
              with_unfolding_all refine TE_cond rfl (fun hc270 => ?_) (fun hc270 => ?_)
              · skip
                replace hF := ite_t hc270 hF
                with_unfolding_all refine TE_seq ?_
                with_unfolding_all refine TE_seqY ?_
                have hM271 := MB_none s226
                with_unfolding_all refine TX_assign rfl ?_
                with_unfolding_all refine TX_nil ?_
                with_unfolding_all refine thenQ_normal ?_
                with_unfolding_all refine TE_ret ?_
                with_unfolding_all refine thenQ_ret ?_
                obtain rfl := some_s hF
                exact done_any (vs := [.bool (false)]) (.inr rfl) rfl (resR_tmp rfl resR_nil) ⟨rfl, hO227.ext⟩
              · skip
                replace hF := ite_f hc270 hF
                with_unfolding_all refine TE_skip ?_
                with_unfolding_all refine thenQ_normal ?_
                with_unfolding_all refine TE_seq ?_
                obtain ⟨r272, h273, hF⟩ := bind_s hF
                obtain ⟨r276, h277, hF⟩ := bind_s hF
                obtain ⟨r282, h283, hF⟩ := bind_s hF
                obtain ⟨r288, h289, hF⟩ := bind_s hF
                with_unfolding_all refine TE_seqY ?_
                have hM290 := MB_none s226
                with_unfolding_all refine TX_move rfl ?_
                with_unfolding_all refine TX_move rfl ?_
                with_unfolding_all refine TX_guard_t rfl rfl (fun hc291 => ?_) (fun hc291 => ?_)
                · skip
                  replace h273 := and_t hc291 h273
                  with_unfolding_all refine TX_move rfl ?_
                  with_unfolding_all refine TX_guard_yes rfl rfl hc291 ?_
                  with_unfolding_all refine TX_cmp rfl rfl rfl ?_
                  with_unfolding_all refine TX_pick_t rfl hc291 rfl ?_
                  obtain rfl := some_s h273
                  with_unfolding_all refine TX_move rfl ?_
                  with_unfolding_all refine TX_guard_t rfl rfl (fun hc292 => ?_) (fun hc292 => ?_)
                  · skip
                    replace h277 := ite_t hc292 h277
                    obtain ⟨x274, h275, h277⟩ := bind_s h277
                    with_unfolding_all refine TX_move rfl ?_
                    with_unfolding_all refine TX_guard_yes rfl rfl hc292 ?_
                    with_unfolding_all refine TX_move rfl ?_
                    with_unfolding_all refine TX_guard_yes rfl rfl hc292 ?_
                    have hc293 : CallE Try.prog 16 [v80, v108] s226 _ := law12_Same_ok h275 h82 h110
                    with_unfolding_all refine TY_call hM290 rfl en16 hc293 ?_
                    intro v294 s298 hv295 hX296 hM297
                    have hO299 := hO227.ext_call hX296
                    obtain rfl := hv295
                    with_unfolding_all refine TX_pick_t rfl hc292 rfl ?_
                    obtain rfl := some_s h277
                    with_unfolding_all refine TX_move rfl ?_
                    with_unfolding_all refine TX_guard_t rfl rfl (fun hc300 => ?_) (fun hc300 => ?_)
                    · skip
                      replace h283 := ite_t hc300 h283
                      obtain ⟨x278, h279, h283⟩ := bind_s h283
                      obtain ⟨x280, h281, h283⟩ := bind_s h283
                      with_unfolding_all refine TX_move rfl ?_
                      with_unfolding_all refine TX_guard_yes rfl rfl hc300 ?_
                      have hc301 : CallE Try.prog 24 [v80] s298 _ := match_Holds_ok h279 h82
                      with_unfolding_all refine TY_call hM297 rfl en24 hc301 ?_
                      intro v302 s306 hv303 hX304 hM305
                      have hO307 := hO299.ext_call hX304
                      obtain rfl := hv303
                      with_unfolding_all refine TX_guard_yes rfl rfl hc300 ?_
                      with_unfolding_all refine TX_move rfl ?_
                      with_unfolding_all refine TX_guard_yes rfl rfl hc300 ?_
                      with_unfolding_all refine TX_move rfl ?_
                      with_unfolding_all refine TX_guard_yes rfl rfl hc300 ?_
                      have hc308 : CallE Try.prog 23 [v0_] s306 _ := law12_MatchJoins_1_ok h281 h0_
                      with_unfolding_all refine TY_call hM305 rfl en23 hc308 ?_
                      intro v309 s313 hv310 hX311 hM312
                      have hO314 := hO307.ext_call hX311
                      obtain rfl := hv310
                      with_unfolding_all refine TX_guard_yes rfl rfl hc300 ?_
                      with_unfolding_all refine TX_not rfl ?_
                      with_unfolding_all refine TX_guard_yes rfl rfl hc300 ?_
                      with_unfolding_all refine TX_beq rfl rfl rfl ?_
                      with_unfolding_all refine TX_pick_t rfl hc300 rfl ?_
                      obtain rfl := some_s h283
                      with_unfolding_all refine TX_move rfl ?_
                      with_unfolding_all refine TX_guard_f rfl rfl (fun hc315 => ?_) (fun hc315 => ?_)
                      · skip
                        replace h289 := ite_t hc315 h289
                        obtain rfl := some_s h289
                        with_unfolding_all refine TX_guard_no_f rfl rfl hc315 ?_
                        with_unfolding_all refine TX_guard_no_f rfl rfl hc315 ?_
                        with_unfolding_all refine TX_guard_un rfl rfl ?_
                        with_unfolding_all refine TX_guard_un rfl rfl ?_
                        with_unfolding_all refine TX_guard_no_f rfl rfl hc315 ?_
                        with_unfolding_all refine TX_guard_no_f rfl rfl hc315 ?_
                        with_unfolding_all refine TX_guard_un rfl rfl ?_
                        with_unfolding_all refine TX_guard_un rfl rfl ?_
                        with_unfolding_all refine TX_guard_un rfl rfl ?_
                        with_unfolding_all refine TX_guard_no_f rfl rfl hc315 ?_
                        with_unfolding_all refine TX_pick_t rfl hc315 rfl ?_
                        with_unfolding_all refine TX_assign rfl ?_
                        with_unfolding_all refine TX_nil ?_
                        with_unfolding_all refine thenQ_normal ?_
                        with_unfolding_all refine TE_ret ?_
                        obtain rfl := some_s hF
                        exact done_any (vs := [.bool (true)]) (.inr rfl) rfl (resR_tmp rfl resR_nil) ⟨rfl, hO314.ext⟩
                      · skip
                        replace h289 := ite_f hc315 h289
                        obtain ⟨r284, h285, h289⟩ := bind_s h289
                        obtain ⟨r286, h287, h289⟩ := bind_s h289
                        with_unfolding_all refine TX_move rfl ?_
                        with_unfolding_all refine TX_guard_yes rfl rfl hc315 ?_
                        with_unfolding_all refine TX_not rfl ?_
                        with_unfolding_all refine TX_guard_yes rfl rfl hc315 ?_
                        with_unfolding_all refine TX_move rfl ?_
                        with_unfolding_all refine TX_guard_t rfl rfl (fun hc316 => ?_) (fun hc316 => ?_)
                        · skip
                          replace h285 := and_t hc316 h285
                          with_unfolding_all refine TX_move rfl ?_
                          with_unfolding_all refine TX_guard_yes rfl rfl hc316 ?_
                          with_unfolding_all refine TX_cmp rfl rfl rfl ?_
                          with_unfolding_all refine TX_guard_yes rfl rfl hc315 ?_
                          with_unfolding_all refine TX_pick_t rfl hc316 rfl ?_
                          obtain rfl := some_s h285
                          with_unfolding_all refine TX_guard_yes rfl rfl hc315 ?_
                          with_unfolding_all refine TX_move rfl ?_
                          with_unfolding_all refine TX_guard_t rfl rfl (fun hc317 => ?_) (fun hc317 => ?_)
                          · skip
                            replace h287 := and_t hc317 h287
                            with_unfolding_all refine TX_move rfl ?_
                            with_unfolding_all refine TX_guard_yes rfl rfl hc317 ?_
                            with_unfolding_all refine TY_len rfl rfl rfl rfl h82 rfl ?_
                            with_unfolding_all refine TX_guard_yes rfl rfl hc317 ?_
                            with_unfolding_all refine TX_cmp rfl rfl rfl ?_
                            with_unfolding_all refine TX_guard_yes rfl rfl hc315 ?_
                            with_unfolding_all refine TX_pick_t rfl hc317 rfl ?_
                            obtain rfl := some_s h287
                            with_unfolding_all refine TX_pick_f rfl hc315 rfl ?_
                            obtain rfl := some_s h289
                            with_unfolding_all refine TX_assign rfl ?_
                            with_unfolding_all refine TX_nil ?_
                            with_unfolding_all refine thenQ_normal ?_
                            with_unfolding_all refine TE_ret ?_
                            obtain rfl := some_s hF
                            exact done_any (vs := [.bool (((x70.1.length : Int) == 0))]) (.inr rfl) rfl (resR_tmp rfl resR_nil) ⟨rfl, hO314.ext⟩
                          · skip
                            replace h287 := and_f hc317 h287
                            obtain rfl := some_s h287
                            with_unfolding_all refine TX_guard_no_t rfl rfl hc317 ?_
                            with_unfolding_all refine TX_guard_no_t rfl rfl hc317 ?_
                            with_unfolding_all refine TX_guard_yes rfl rfl hc315 ?_
                            with_unfolding_all refine TX_pick_f rfl hc317 rfl ?_
                            with_unfolding_all refine TX_pick_f rfl hc315 rfl ?_
                            obtain rfl := some_s h289
                            with_unfolding_all refine TX_assign rfl ?_
                            with_unfolding_all refine TX_nil ?_
                            with_unfolding_all refine thenQ_normal ?_
                            with_unfolding_all refine TE_ret ?_
                            obtain rfl := some_s hF
                            exact done_any (vs := [.bool (false)]) (.inr rfl) rfl (resR_tmp rfl resR_nil) ⟨rfl, hO314.ext⟩
                        · skip
                          replace h285 := and_f hc316 h285
                          obtain rfl := some_s h285
                          with_unfolding_all refine TX_guard_no_t rfl rfl hc316 ?_
                          with_unfolding_all refine TX_guard_yes rfl rfl hc315 ?_
                          with_unfolding_all refine TX_pick_f rfl hc316 rfl ?_
                          with_unfolding_all refine TX_guard_yes rfl rfl hc315 ?_
                          with_unfolding_all refine TX_move rfl ?_
                          replace h287 := and_f rfl h287
                          obtain rfl := some_s h287
                          with_unfolding_all refine TX_guard_no_t rfl rfl rfl ?_
                          with_unfolding_all refine TX_guard_no_t rfl rfl rfl ?_
                          with_unfolding_all refine TX_guard_no_t rfl rfl rfl ?_
                          with_unfolding_all refine TX_guard_yes rfl rfl hc315 ?_
                          with_unfolding_all refine TX_pick_f rfl rfl rfl ?_
                          with_unfolding_all refine TX_pick_f rfl hc315 rfl ?_
                          obtain rfl := some_s h289
                          with_unfolding_all refine TX_assign rfl ?_
                          with_unfolding_all refine TX_nil ?_
                          with_unfolding_all refine thenQ_normal ?_
                          with_unfolding_all refine TE_ret ?_
                          obtain rfl := some_s hF
                          exact done_any (vs := [.bool (false)]) (.inr rfl) rfl (resR_tmp rfl resR_nil) ⟨rfl, hO314.ext⟩
                    · skip
                      replace h283 := ite_f hc300 h283
                      obtain rfl := some_s h283
                      with_unfolding_all refine TX_guard_no_t rfl rfl hc300 ?_
                      with_unfolding_all refine TX_guard_no_t rfl rfl hc300 ?_
                      with_unfolding_all refine TX_guard_no_t rfl rfl hc300 ?_
                      with_unfolding_all refine TX_guard_no_t rfl rfl hc300 ?_
                      with_unfolding_all refine TX_guard_no_t rfl rfl hc300 ?_
                      with_unfolding_all refine TX_guard_no_t rfl rfl hc300 ?_
                      with_unfolding_all refine TX_pick_f rfl hc300 rfl ?_
                      with_unfolding_all refine TX_move rfl ?_
                      replace h289 := ite_f rfl h289
                      obtain ⟨r284, h285, h289⟩ := bind_s h289
                      obtain ⟨r286, h287, h289⟩ := bind_s h289
                      with_unfolding_all refine TX_guard_yes rfl rfl rfl ?_
                      with_unfolding_all refine TX_move rfl ?_
                      with_unfolding_all refine TX_guard_yes rfl rfl rfl ?_
                      with_unfolding_all refine TX_not rfl ?_
                      with_unfolding_all refine TX_guard_yes rfl rfl rfl ?_
                      with_unfolding_all refine TX_move rfl ?_
                      with_unfolding_all refine TX_guard_t rfl rfl (fun hc318 => ?_) (fun hc318 => ?_)
                      · skip
                        replace h285 := and_t hc318 h285
                        with_unfolding_all refine TX_move rfl ?_
                        with_unfolding_all refine TX_guard_yes rfl rfl hc318 ?_
                        with_unfolding_all refine TX_cmp rfl rfl rfl ?_
                        with_unfolding_all refine TX_guard_yes rfl rfl rfl ?_
                        with_unfolding_all refine TX_pick_t rfl hc318 rfl ?_
                        obtain rfl := some_s h285
                        with_unfolding_all refine TX_guard_yes rfl rfl rfl ?_
                        with_unfolding_all refine TX_move rfl ?_
                        with_unfolding_all refine TX_guard_t rfl rfl (fun hc319 => ?_) (fun hc319 => ?_)
                        · skip
                          replace h287 := and_t hc319 h287
                          with_unfolding_all refine TX_move rfl ?_
                          with_unfolding_all refine TX_guard_yes rfl rfl hc319 ?_
                          with_unfolding_all refine TY_len rfl rfl rfl rfl h82 rfl ?_
                          with_unfolding_all refine TX_guard_yes rfl rfl hc319 ?_
                          with_unfolding_all refine TX_cmp rfl rfl rfl ?_
                          with_unfolding_all refine TX_guard_yes rfl rfl rfl ?_
                          with_unfolding_all refine TX_pick_t rfl hc319 rfl ?_
                          obtain rfl := some_s h287
                          with_unfolding_all refine TX_pick_f rfl rfl rfl ?_
                          obtain rfl := some_s h289
                          with_unfolding_all refine TX_assign rfl ?_
                          with_unfolding_all refine TX_nil ?_
                          with_unfolding_all refine thenQ_normal ?_
                          with_unfolding_all refine TE_ret ?_
                          obtain rfl := some_s hF
                          exact done_any (vs := [.bool (((x70.1.length : Int) == 0))]) (.inr rfl) rfl (resR_tmp rfl resR_nil) ⟨rfl, hO299.ext⟩
                        · skip
                          replace h287 := and_f hc319 h287
                          obtain rfl := some_s h287
                          with_unfolding_all refine TX_guard_no_t rfl rfl hc319 ?_
                          with_unfolding_all refine TX_guard_no_t rfl rfl hc319 ?_
                          with_unfolding_all refine TX_guard_yes rfl rfl rfl ?_
                          with_unfolding_all refine TX_pick_f rfl hc319 rfl ?_
                          with_unfolding_all refine TX_pick_f rfl rfl rfl ?_
                          obtain rfl := some_s h289
                          with_unfolding_all refine TX_assign rfl ?_
                          with_unfolding_all refine TX_nil ?_
                          with_unfolding_all refine thenQ_normal ?_
                          with_unfolding_all refine TE_ret ?_
                          obtain rfl := some_s hF
                          exact done_any (vs := [.bool (false)]) (.inr rfl) rfl (resR_tmp rfl resR_nil) ⟨rfl, hO299.ext⟩
                      · skip
                        replace h285 := and_f hc318 h285
                        obtain rfl := some_s h285
                        with_unfolding_all refine TX_guard_no_t rfl rfl hc318 ?_
                        with_unfolding_all refine TX_guard_yes rfl rfl rfl ?_
                        with_unfolding_all refine TX_pick_f rfl hc318 rfl ?_
                        with_unfolding_all refine TX_guard_yes rfl rfl rfl ?_
                        with_unfolding_all refine TX_move rfl ?_
                        replace h287 := and_f rfl h287
                        obtain rfl := some_s h287
                        with_unfolding_all refine TX_guard_no_t rfl rfl rfl ?_
                        with_unfolding_all refine TX_guard_no_t rfl rfl rfl ?_
                        with_unfolding_all refine TX_guard_no_t rfl rfl rfl ?_
                        with_unfolding_all refine TX_guard_yes rfl rfl rfl ?_
                        with_unfolding_all refine TX_pick_f rfl rfl rfl ?_
                        with_unfolding_all refine TX_pick_f rfl rfl rfl ?_
                        obtain rfl := some_s h289
                        with_unfolding_all refine TX_assign rfl ?_
                        with_unfolding_all refine TX_nil ?_
                        with_unfolding_all refine thenQ_normal ?_
                        with_unfolding_all refine TE_ret ?_
                        obtain rfl := some_s hF
                        exact done_any (vs := [.bool (false)]) (.inr rfl) rfl (resR_tmp rfl resR_nil) ⟨rfl, hO299.ext⟩
                  · skip
                    replace h277 := ite_f hc292 h277
                    obtain rfl := some_s h277
                    with_unfolding_all refine TX_guard_no_t rfl rfl hc292 ?_
                    with_unfolding_all refine TX_guard_no_t rfl rfl hc292 ?_
                    with_unfolding_all refine TX_pick_f rfl hc292 rfl ?_
                    with_unfolding_all refine TX_move rfl ?_
                    replace h283 := ite_f rfl h283
                    obtain rfl := some_s h283
                    with_unfolding_all refine TX_guard_no_t rfl rfl rfl ?_
                    with_unfolding_all refine TX_guard_no_t rfl rfl rfl ?_
                    with_unfolding_all refine TX_guard_no_t rfl rfl rfl ?_
                    with_unfolding_all refine TX_guard_no_t rfl rfl rfl ?_
                    with_unfolding_all refine TX_guard_no_t rfl rfl rfl ?_
                    with_unfolding_all refine TX_guard_no_t rfl rfl rfl ?_
                    with_unfolding_all refine TX_guard_no_t rfl rfl rfl ?_
                    with_unfolding_all refine TX_pick_f rfl rfl rfl ?_
                    with_unfolding_all refine TX_move rfl ?_
                    replace h289 := ite_f rfl h289
                    obtain ⟨r284, h285, h289⟩ := bind_s h289
                    obtain ⟨r286, h287, h289⟩ := bind_s h289
                    with_unfolding_all refine TX_guard_yes rfl rfl rfl ?_
                    with_unfolding_all refine TX_move rfl ?_
                    with_unfolding_all refine TX_guard_yes rfl rfl rfl ?_
                    with_unfolding_all refine TX_not rfl ?_
                    with_unfolding_all refine TX_guard_yes rfl rfl rfl ?_
                    with_unfolding_all refine TX_move rfl ?_
                    with_unfolding_all refine TX_guard_t rfl rfl (fun hc320 => ?_) (fun hc320 => ?_)
                    · skip
                      replace h285 := and_t hc320 h285
                      with_unfolding_all refine TX_move rfl ?_
                      with_unfolding_all refine TX_guard_yes rfl rfl hc320 ?_
                      with_unfolding_all refine TX_cmp rfl rfl rfl ?_
                      with_unfolding_all refine TX_guard_yes rfl rfl rfl ?_
                      with_unfolding_all refine TX_pick_t rfl hc320 rfl ?_
                      obtain rfl := some_s h285
                      with_unfolding_all refine TX_guard_yes rfl rfl rfl ?_
                      with_unfolding_all refine TX_move rfl ?_
                      with_unfolding_all refine TX_guard_t rfl rfl (fun hc321 => ?_) (fun hc321 => ?_)
                      · skip
                        replace h287 := and_t hc321 h287
                        with_unfolding_all refine TX_move rfl ?_
                        with_unfolding_all refine TX_guard_yes rfl rfl hc321 ?_
                        with_unfolding_all refine TY_len rfl rfl rfl rfl h82 rfl ?_
                        with_unfolding_all refine TX_guard_yes rfl rfl hc321 ?_
                        with_unfolding_all refine TX_cmp rfl rfl rfl ?_
                        with_unfolding_all refine TX_guard_yes rfl rfl rfl ?_
                        with_unfolding_all refine TX_pick_t rfl hc321 rfl ?_
                        obtain rfl := some_s h287
                        with_unfolding_all refine TX_pick_f rfl rfl rfl ?_
                        obtain rfl := some_s h289
                        with_unfolding_all refine TX_assign rfl ?_
                        with_unfolding_all refine TX_nil ?_
                        with_unfolding_all refine thenQ_normal ?_
                        with_unfolding_all refine TE_ret ?_
                        obtain rfl := some_s hF
                        exact done_any (vs := [.bool (((x70.1.length : Int) == 0))]) (.inr rfl) rfl (resR_tmp rfl resR_nil) ⟨rfl, hO227.ext⟩
                      · skip
                        replace h287 := and_f hc321 h287
                        obtain rfl := some_s h287
                        with_unfolding_all refine TX_guard_no_t rfl rfl hc321 ?_
                        with_unfolding_all refine TX_guard_no_t rfl rfl hc321 ?_
                        with_unfolding_all refine TX_guard_yes rfl rfl rfl ?_
                        with_unfolding_all refine TX_pick_f rfl hc321 rfl ?_
                        with_unfolding_all refine TX_pick_f rfl rfl rfl ?_
                        obtain rfl := some_s h289
                        with_unfolding_all refine TX_assign rfl ?_
                        with_unfolding_all refine TX_nil ?_
                        with_unfolding_all refine thenQ_normal ?_
                        with_unfolding_all refine TE_ret ?_
                        obtain rfl := some_s hF
                        exact done_any (vs := [.bool (false)]) (.inr rfl) rfl (resR_tmp rfl resR_nil) ⟨rfl, hO227.ext⟩
                    · skip
                      replace h285 := and_f hc320 h285
                      obtain rfl := some_s h285
                      with_unfolding_all refine TX_guard_no_t rfl rfl hc320 ?_
                      with_unfolding_all refine TX_guard_yes rfl rfl rfl ?_
                      with_unfolding_all refine TX_pick_f rfl hc320 rfl ?_
                      with_unfolding_all refine TX_guard_yes rfl rfl rfl ?_
                      with_unfolding_all refine TX_move rfl ?_
                      replace h287 := and_f rfl h287
                      obtain rfl := some_s h287
                      with_unfolding_all refine TX_guard_no_t rfl rfl rfl ?_
                      with_unfolding_all refine TX_guard_no_t rfl rfl rfl ?_
                      with_unfolding_all refine TX_guard_no_t rfl rfl rfl ?_
                      with_unfolding_all refine TX_guard_yes rfl rfl rfl ?_
                      with_unfolding_all refine TX_pick_f rfl rfl rfl ?_
                      with_unfolding_all refine TX_pick_f rfl rfl rfl ?_
                      obtain rfl := some_s h289
                      with_unfolding_all refine TX_assign rfl ?_
                      with_unfolding_all refine TX_nil ?_
                      with_unfolding_all refine thenQ_normal ?_
                      with_unfolding_all refine TE_ret ?_
                      obtain rfl := some_s hF
                      exact done_any (vs := [.bool (false)]) (.inr rfl) rfl (resR_tmp rfl resR_nil) ⟨rfl, hO227.ext⟩
                · skip
                  replace h273 := and_f hc291 h273
                  obtain rfl := some_s h273
                  with_unfolding_all refine TX_guard_no_t rfl rfl hc291 ?_
                  with_unfolding_all refine TX_pick_f rfl hc291 rfl ?_
                  with_unfolding_all refine TX_move rfl ?_
                  replace h277 := ite_f rfl h277
                  obtain rfl := some_s h277
                  with_unfolding_all refine TX_guard_no_t rfl rfl rfl ?_
                  with_unfolding_all refine TX_guard_no_t rfl rfl rfl ?_
                  with_unfolding_all refine TX_guard_no_t rfl rfl rfl ?_
                  with_unfolding_all refine TX_pick_f rfl rfl rfl ?_
                  with_unfolding_all refine TX_move rfl ?_
                  replace h283 := ite_f rfl h283
                  obtain rfl := some_s h283
                  with_unfolding_all refine TX_guard_no_t rfl rfl rfl ?_
                  with_unfolding_all refine TX_guard_no_t rfl rfl rfl ?_
                  with_unfolding_all refine TX_guard_no_t rfl rfl rfl ?_
                  with_unfolding_all refine TX_guard_no_t rfl rfl rfl ?_
                  with_unfolding_all refine TX_guard_no_t rfl rfl rfl ?_
                  with_unfolding_all refine TX_guard_no_t rfl rfl rfl ?_
                  with_unfolding_all refine TX_guard_no_t rfl rfl rfl ?_
                  with_unfolding_all refine TX_pick_f rfl rfl rfl ?_
                  with_unfolding_all refine TX_move rfl ?_
                  replace h289 := ite_f rfl h289
                  obtain ⟨r284, h285, h289⟩ := bind_s h289
                  obtain ⟨r286, h287, h289⟩ := bind_s h289
                  with_unfolding_all refine TX_guard_yes rfl rfl rfl ?_
                  with_unfolding_all refine TX_move rfl ?_
                  with_unfolding_all refine TX_guard_yes rfl rfl rfl ?_
                  with_unfolding_all refine TX_not rfl ?_
                  with_unfolding_all refine TX_guard_yes rfl rfl rfl ?_
                  with_unfolding_all refine TX_move rfl ?_
                  with_unfolding_all refine TX_guard_t rfl rfl (fun hc322 => ?_) (fun hc322 => ?_)
                  · skip
                    replace h285 := and_t hc322 h285
                    with_unfolding_all refine TX_move rfl ?_
                    with_unfolding_all refine TX_guard_yes rfl rfl hc322 ?_
                    with_unfolding_all refine TX_cmp rfl rfl rfl ?_
                    with_unfolding_all refine TX_guard_yes rfl rfl rfl ?_
                    with_unfolding_all refine TX_pick_t rfl hc322 rfl ?_
                    obtain rfl := some_s h285
                    with_unfolding_all refine TX_guard_yes rfl rfl rfl ?_
                    with_unfolding_all refine TX_move rfl ?_
                    with_unfolding_all refine TX_guard_t rfl rfl (fun hc323 => ?_) (fun hc323 => ?_)
                    · skip
                      replace h287 := and_t hc323 h287
                      with_unfolding_all refine TX_move rfl ?_
                      with_unfolding_all refine TX_guard_yes rfl rfl hc323 ?_
                      with_unfolding_all refine TY_len rfl rfl rfl rfl h82 rfl ?_
                      with_unfolding_all refine TX_guard_yes rfl rfl hc323 ?_
                      with_unfolding_all refine TX_cmp rfl rfl rfl ?_
                      with_unfolding_all refine TX_guard_yes rfl rfl rfl ?_
                      with_unfolding_all refine TX_pick_t rfl hc323 rfl ?_
                      obtain rfl := some_s h287
                      with_unfolding_all refine TX_pick_f rfl rfl rfl ?_
                      obtain rfl := some_s h289
                      with_unfolding_all refine TX_assign rfl ?_
                      with_unfolding_all refine TX_nil ?_
                      with_unfolding_all refine thenQ_normal ?_
                      with_unfolding_all refine TE_ret ?_
                      obtain rfl := some_s hF
                      exact done_any (vs := [.bool (((x70.1.length : Int) == 0))]) (.inr rfl) rfl (resR_tmp rfl resR_nil) ⟨rfl, hO227.ext⟩
                    · skip
                      replace h287 := and_f hc323 h287
                      obtain rfl := some_s h287
                      with_unfolding_all refine TX_guard_no_t rfl rfl hc323 ?_
                      with_unfolding_all refine TX_guard_no_t rfl rfl hc323 ?_
                      with_unfolding_all refine TX_guard_yes rfl rfl rfl ?_
                      with_unfolding_all refine TX_pick_f rfl hc323 rfl ?_
                      with_unfolding_all refine TX_pick_f rfl rfl rfl ?_
                      obtain rfl := some_s h289
                      with_unfolding_all refine TX_assign rfl ?_
                      with_unfolding_all refine TX_nil ?_
                      with_unfolding_all refine thenQ_normal ?_
                      with_unfolding_all refine TE_ret ?_
                      obtain rfl := some_s hF
                      exact done_any (vs := [.bool (false)]) (.inr rfl) rfl (resR_tmp rfl resR_nil) ⟨rfl, hO227.ext⟩
                  · skip
                    replace h285 := and_f hc322 h285
                    obtain rfl := some_s h285
                    with_unfolding_all refine TX_guard_no_t rfl rfl hc322 ?_
                    with_unfolding_all refine TX_guard_yes rfl rfl rfl ?_
                    with_unfolding_all refine TX_pick_f rfl hc322 rfl ?_
                    with_unfolding_all refine TX_guard_yes rfl rfl rfl ?_
                    with_unfolding_all refine TX_move rfl ?_
                    replace h287 := and_f rfl h287
                    obtain rfl := some_s h287
                    with_unfolding_all refine TX_guard_no_t rfl rfl rfl ?_
                    with_unfolding_all refine TX_guard_no_t rfl rfl rfl ?_
                    with_unfolding_all refine TX_guard_no_t rfl rfl rfl ?_
                    with_unfolding_all refine TX_guard_yes rfl rfl rfl ?_
                    with_unfolding_all refine TX_pick_f rfl rfl rfl ?_
                    with_unfolding_all refine TX_pick_f rfl rfl rfl ?_
                    obtain rfl := some_s h289
                    with_unfolding_all refine TX_assign rfl ?_
                    with_unfolding_all refine TX_nil ?_
                    with_unfolding_all refine thenQ_normal ?_
                    with_unfolding_all refine TE_ret ?_
                    obtain rfl := some_s hF
                    exact done_any (vs := [.bool (false)]) (.inr rfl) rfl (resR_tmp rfl resR_nil) ⟨rfl, hO227.ext⟩
end Go.Proofs.Ytihbdelgoapeoaa.K
