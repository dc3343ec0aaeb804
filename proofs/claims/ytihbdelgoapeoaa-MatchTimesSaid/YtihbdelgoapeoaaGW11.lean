/- Walks. Printed. -/
import Derived.Test.YtihbdelgoapeoaaGW10
namespace Go.Proofs.Ytihbdelgoapeoaa.K
open Go Go.RowKit F
set_option maxRecDepth 100000
set_option maxHeartbeats 4000000
set_option linter.unusedVariables false
set_option linter.unusedSimpArgs false
theorem law12_MatchEmpty_ok {x0_ : (List match_Match)} {x1_ : Int} {x2_ : Int} {y : Bool} (hF : F.law12_MatchEmpty x0_ x1_ x2_ = some y) {v0_ : AV} {v1_ : AV} {v2_ : AV} {σ : Mem} (h0_ : (RS e_match_Match) v0_ x0_) (h1_ : (eI .i64).rel v1_ x1_) (h2_ : (eI .i64).rel v2_ x2_)  :
    CallE Try.prog 9 [v0_, v1_, v2_] σ (fun v σ' => eB.rel v y ∧ Ext σ σ') := by
  unfold F.law12_MatchEmpty at hF
  obtain rfl := h1_
  obtain rfl := h2_
  refine CallE_of Try.func9 rfl Try.ntmps9 (by simp) ?_
  have hO0 := Own.start σ
  with_unfolding_all refine TE_seq ?_
  with_unfolding_all refine TE_seqY ?_
  have hM1 := MB_none σ
  with_unfolding_all refine TX_assign rfl ?_
  with_unfolding_all refine TX_nil ?_
  with_unfolding_all refine thenQ_normal ?_
  with_unfolding_all refine TE_seq ?_
  with_unfolding_all refine TE_seq ?_
  obtain ⟨x2, h3, hF⟩ := bind_s hF
  with_unfolding_all refine TE_seqY ?_
  have hM4 := MB_none σ
  have hc5 : CallE Try.prog 14 [] σ _ := law12_head_ok h3 
  with_unfolding_all refine TY_call hM4 rfl en14 hc5 ?_
  intro v6 s10 hv7 hX8 hM9
  have hO11 := hO0.ext_call hX8
  obtain rfl := hv7
  with_unfolding_all refine TX_not rfl ?_
  with_unfolding_all refine TX_nil ?_
  with_unfolding_all refine thenQ_normal ?_
  with_unfolding_all refine TE_cond rfl (fun hc12 => ?_) (fun hc12 => ?_)
  · skip
    replace hF := ite_t hc12 hF
    with_unfolding_all refine TE_seq ?_
    with_unfolding_all refine TE_seqY ?_
    have hM13 := MB_none s10
    with_unfolding_all refine TX_assign rfl ?_
    with_unfolding_all refine TX_nil ?_
    with_unfolding_all refine thenQ_normal ?_
    with_unfolding_all refine TE_ret ?_
    with_unfolding_all refine thenQ_ret ?_
    obtain rfl := some_s hF
    exact done_any (vs := [.bool (false)]) (.inr rfl) rfl (resR_tmp rfl resR_nil) ⟨rfl, hO11.ext⟩
  · skip
    replace hF := ite_f hc12 hF
    with_unfolding_all refine TE_skip ?_
    with_unfolding_all refine thenQ_normal ?_
    with_unfolding_all refine TE_seq ?_
    with_unfolding_all refine TE_seq ?_
    obtain ⟨x14, h15, hF⟩ := bind_s hF
    with_unfolding_all refine TE_seqY ?_
    have hM16 := MB_none s10
    with_unfolding_all refine TX_move rfl ?_
    have hc17 : CallE Try.prog 15 [v0_, .int .i64 (20)] s10 _ := law12_Good_ok h15 h0_ rfl
    with_unfolding_all refine TY_call hM16 rfl en15 hc17 ?_
    intro v18 s22 hv19 hX20 hM21
    have hO23 := hO11.ext_call hX20
    obtain rfl := hv19
    with_unfolding_all refine TX_not rfl ?_
    with_unfolding_all refine TX_nil ?_
    with_unfolding_all refine thenQ_normal ?_
    with_unfolding_all refine TE_cond rfl (fun hc24 => ?_) (fun hc24 => ?_)
    · skip
      replace hF := ite_t hc24 hF
      with_unfolding_all refine TE_seq ?_
      with_unfolding_all refine TE_seqY ?_
      have hM25 := MB_none s22
      with_unfolding_all refine TX_assign rfl ?_
      with_unfolding_all refine TX_nil ?_
      with_unfolding_all refine thenQ_normal ?_
      with_unfolding_all refine TE_ret ?_
      with_unfolding_all refine thenQ_ret ?_
      obtain rfl := some_s hF
      exact done_any (vs := [.bool (true)]) (.inr rfl) rfl (resR_tmp rfl resR_nil) ⟨rfl, hO23.ext⟩
    · skip
      replace hF := ite_f hc24 hF
      with_unfolding_all refine TE_skip ?_
      with_unfolding_all refine thenQ_normal ?_
      with_unfolding_all refine TE_seq ?_
      obtain ⟨x26, h27, hF⟩ := bind_s hF
      with_unfolding_all refine TE_seqY ?_
      have hM28 := MB_none s22
      with_unfolding_all refine TX_move rfl ?_
      have hc29 : CallE Try.prog 18 [.nils, v0_] s22 _ := match_Or_ok h27 (RS.nil e_match_Match) h0_
      with_unfolding_all refine TY_call hM28 rfl en18 hc29 ?_
      intro v30 s34 hv31 hX32 hM33
      have hO35 := hO23.ext_call hX32
      obtain ⟨v36, v37, rfl, h38, h39⟩ := hv31
      obtain rfl := h39
      with_unfolding_all refine TX_move rfl ?_
      with_unfolding_all refine TX_extract rfl rfl ?_
      with_unfolding_all refine TX_extract rfl rfl ?_
      with_unfolding_all refine TX_assign rfl ?_
      with_unfolding_all refine TX_assign rfl ?_
      with_unfolding_all refine TX_nil ?_
      with_unfolding_all refine thenQ_normal ?_
      with_unfolding_all refine TE_seq ?_
      obtain ⟨x40, h41, hF⟩ := bind_s hF
      with_unfolding_all refine TE_seqY ?_
      have hM42 := MB_none s34
      with_unfolding_all refine TX_move rfl ?_
      have hc43 : CallE Try.prog 19 [.nils, v0_] s34 _ := match_And_ok h41 (RS.nil e_match_Match) h0_
      with_unfolding_all refine TY_call hM42 rfl en19 hc43 ?_
      intro v44 s48 hv45 hX46 hM47
      have hO49 := hO35.ext_call hX46
      obtain ⟨v50, v51, rfl, h52, h53⟩ := hv45
      obtain rfl := h53
      with_unfolding_all refine TX_move rfl ?_
      with_unfolding_all refine TX_extract rfl rfl ?_
      with_unfolding_all refine TX_extract rfl rfl ?_
      with_unfolding_all refine TX_assign rfl ?_
      with_unfolding_all refine TX_assign rfl ?_
      with_unfolding_all refine TX_nil ?_
      with_unfolding_all refine thenQ_normal ?_
      with_unfolding_all refine TE_seq ?_
      obtain ⟨x54, h55, hF⟩ := bind_s hF
      with_unfolding_all refine TE_seqY ?_
      have hM56 := MB_none s48
      have hc57 : CallE Try.prog 20 [.nils] s48 _ := match_Not_ok h55 (RS.nil e_match_Match)
      with_unfolding_all refine TY_call hM56 rfl en20 hc57 ?_
      intro v58 s62 hv59 hX60 hM61
      have hO63 := hO49.ext_call hX60
      obtain ⟨v64, v65, rfl, h66, h67⟩ := hv59
      obtain rfl := h67
      with_unfolding_all refine TX_move rfl ?_
      with_unfolding_all refine TX_extract rfl rfl ?_
      with_unfolding_all refine TX_extract rfl rfl ?_
      with_unfolding_all refine TX_assign rfl ?_
      with_unfolding_all refine TX_assign rfl ?_
      with_unfolding_all refine TX_nil ?_
      with_unfolding_all refine thenQ_normal ?_
      with_unfolding_all refine TE_seq ?_
      obtain ⟨x68, h69, hF⟩ := bind_s hF
      with_unfolding_all refine TE_seqY ?_
      have hM70 := MB_none s62
      with_unfolding_all refine TX_move rfl ?_
      with_unfolding_all refine TX_bit rfl rfl rfl ?_
      with_unfolding_all refine TX_move rfl ?_
      with_unfolding_all refine TX_bit rfl rfl rfl ?_
      with_unfolding_all refine TY_build [.int .i64 ((band .i64 x1_ 7)), .int .i64 ((band .i64 x2_ 7))] rfl rfl rfl (by with_unfolding_all exact Fill.cons rfl rfl rfl (by with_unfolding_all exact Nat.le_of_ble_eq_true rfl) (Fill.cons rfl rfl rfl (by with_unfolding_all exact Nat.le_of_ble_eq_true rfl) (Fill.nil _))) (by with_unfolding_all rfl) ?_
      have hc71 : CallE Try.prog 32 [.nils, .agg [.int .i64 ((band .i64 x1_ 7)), .int .i64 ((band .i64 x2_ 7))]] s62 _ := match_Times_ok h69 (RS.nil e_match_Match) rfl
      with_unfolding_all refine TY_call hM70 rfl en32 hc71 ?_
      intro v72 s76 hv73 hX74 hM75
      have hO77 := hO63.ext_call hX74
      obtain ⟨v78, v79, rfl, h80, h81⟩ := hv73
      obtain rfl := h81
      with_unfolding_all refine TX_move rfl ?_
      with_unfolding_all refine TX_extract rfl rfl ?_
      with_unfolding_all refine TX_extract rfl rfl ?_
      with_unfolding_all refine TX_assign rfl ?_
      with_unfolding_all refine TX_assign rfl ?_
      with_unfolding_all refine TX_nil ?_
      with_unfolding_all refine thenQ_normal ?_
      with_unfolding_all refine TE_seq ?_
      obtain ⟨r82, h83, hF⟩ := bind_s hF
      obtain ⟨r84, h85, hF⟩ := bind_s hF
      obtain ⟨r86, h87, hF⟩ := bind_s hF
      obtain ⟨r90, h91, hF⟩ := bind_s hF
      obtain ⟨r92, h93, hF⟩ := bind_s hF
      obtain ⟨r94, h95, hF⟩ := bind_s hF
      obtain ⟨r98, h99, hF⟩ := bind_s hF
      obtain ⟨r102, h103, hF⟩ := bind_s hF
      obtain ⟨r106, h107, hF⟩ := bind_s hF
      obtain ⟨r110, h111, hF⟩ := bind_s hF
      with_unfolding_all refine TE_seqY ?_
      have hM112 := MB_none s76
      with_unfolding_all refine TX_move rfl ?_
      with_unfolding_all refine TX_cmp rfl rfl rfl ?_
      with_unfolding_all refine TX_move rfl ?_
      with_unfolding_all refine TX_guard_t rfl rfl (fun hc113 => ?_) (fun hc113 => ?_)
      · skip
        replace h83 := and_t hc113 h83
        with_unfolding_all refine TX_move rfl ?_
        with_unfolding_all refine TX_guard_yes rfl rfl hc113 ?_
        with_unfolding_all refine TX_cmp rfl rfl rfl ?_
        with_unfolding_all refine TX_pick_t rfl hc113 rfl ?_
        obtain rfl := some_s h83
        with_unfolding_all refine TX_move rfl ?_
        with_unfolding_all refine TX_guard_t rfl rfl (fun hc114 => ?_) (fun hc114 => ?_)
        · skip
          replace h85 := and_t hc114 h85
          with_unfolding_all refine TX_move rfl ?_
          with_unfolding_all refine TX_guard_yes rfl rfl hc114 ?_
          with_unfolding_all refine TX_cmp rfl rfl rfl ?_
          with_unfolding_all refine TX_pick_t rfl hc114 rfl ?_
          obtain rfl := some_s h85
          with_unfolding_all refine TX_move rfl ?_
          with_unfolding_all refine TX_guard_t rfl rfl (fun hc115 => ?_) (fun hc115 => ?_)
          · skip
            replace h87 := and_t hc115 h87
            with_unfolding_all refine TX_move rfl ?_
            with_unfolding_all refine TX_guard_yes rfl rfl hc115 ?_
            with_unfolding_all refine TX_cmp rfl rfl rfl ?_
            with_unfolding_all refine TX_pick_t rfl hc115 rfl ?_
            obtain rfl := some_s h87
            with_unfolding_all refine TX_move rfl ?_
            with_unfolding_all refine TX_guard_t rfl rfl (fun hc116 => ?_) (fun hc116 => ?_)
            · skip
              replace h91 := ite_t hc116 h91
              obtain ⟨x88, h89, h91⟩ := bind_s h91
              with_unfolding_all refine TX_move rfl ?_
              with_unfolding_all refine TX_guard_yes rfl rfl hc116 ?_
              with_unfolding_all refine TX_move rfl ?_
              with_unfolding_all refine TX_guard_yes rfl rfl hc116 ?_
              have hc117 : CallE Try.prog 16 [v36, v0_] s76 _ := law12_Same_ok h89 h38 h0_
              with_unfolding_all refine TY_call hM112 rfl en16 hc117 ?_
              intro v118 s122 hv119 hX120 hM121
              have hO123 := hO77.ext_call hX120
              obtain rfl := hv119
              with_unfolding_all refine TX_pick_t rfl hc116 rfl ?_
              obtain rfl := some_s h91
              with_unfolding_all refine TX_move rfl ?_
              with_unfolding_all refine TX_guard_t rfl rfl (fun hc124 => ?_) (fun hc124 => ?_)
              · skip
                replace h93 := and_t hc124 h93
                with_unfolding_all refine TX_move rfl ?_
                with_unfolding_all refine TX_guard_yes rfl rfl hc124 ?_
                with_unfolding_all refine TY_len rfl rfl rfl rfl h52 rfl ?_
                with_unfolding_all refine TX_guard_yes rfl rfl hc124 ?_
                with_unfolding_all refine TX_cmp rfl rfl rfl ?_
                with_unfolding_all refine TX_pick_t rfl hc124 rfl ?_
                obtain rfl := some_s h93
                with_unfolding_all refine TX_move rfl ?_
                with_unfolding_all refine TX_guard_t rfl rfl (fun hc125 => ?_) (fun hc125 => ?_)
                · skip
                  replace h95 := and_t hc125 h95
                  with_unfolding_all refine TX_move rfl ?_
                  with_unfolding_all refine TX_guard_yes rfl rfl hc125 ?_
                  with_unfolding_all refine TY_len rfl rfl rfl rfl h66 rfl ?_
                  with_unfolding_all refine TX_guard_yes rfl rfl hc125 ?_
                  with_unfolding_all refine TX_cmp rfl rfl rfl ?_
                  with_unfolding_all refine TX_pick_t rfl hc125 rfl ?_
                  obtain rfl := some_s h95
                  with_unfolding_all refine TX_move rfl ?_
                  with_unfolding_all refine TX_guard_t rfl rfl (fun hc126 => ?_) (fun hc126 => ?_)
                  · skip
                    replace h99 := ite_t hc126 h99
                    obtain ⟨x96, h97, h99⟩ := bind_s h99
                    with_unfolding_all refine TX_move rfl ?_
                    with_unfolding_all refine TX_guard_yes rfl rfl hc126 ?_
                    have hc127 : CallE Try.prog 24 [v64] s122 _ := match_Holds_ok h97 h66
                    with_unfolding_all refine TY_call hM121 rfl en24 hc127 ?_
                    intro v128 s132 hv129 hX130 hM131
                    have hO133 := hO123.ext_call hX130
                    obtain rfl := hv129
                    with_unfolding_all refine TX_pick_t rfl hc126 rfl ?_
                    obtain rfl := some_s h99
                    with_unfolding_all refine TX_move rfl ?_
                    with_unfolding_all refine TX_guard_t rfl rfl (fun hc134 => ?_) (fun hc134 => ?_)
                    · skip
                      replace h103 := ite_t hc134 h103
                      obtain ⟨x100, h101, h103⟩ := bind_s h103
                      with_unfolding_all refine TX_move rfl ?_
                      with_unfolding_all refine TX_guard_yes rfl rfl hc134 ?_
                      have hc135 : CallE Try.prog 24 [v78] s132 _ := match_Holds_ok h101 h80
                      with_unfolding_all refine TY_call hM131 rfl en24 hc135 ?_
                      intro v136 s140 hv137 hX138 hM139
                      have hO141 := hO133.ext_call hX138
                      obtain rfl := hv137
                      with_unfolding_all refine TX_guard_yes rfl rfl hc134 ?_
                      with_unfolding_all refine TX_move rfl ?_
                      with_unfolding_all refine TX_guard_yes rfl rfl hc134 ?_
                      with_unfolding_all refine TX_bit rfl rfl rfl ?_
                      with_unfolding_all refine TX_guard_yes rfl rfl hc134 ?_
                      with_unfolding_all refine TX_cmp rfl rfl rfl ?_
                      with_unfolding_all refine TX_guard_yes rfl rfl hc134 ?_
                      with_unfolding_all refine TX_beq rfl rfl rfl ?_
                      with_unfolding_all refine TX_pick_t rfl hc134 rfl ?_
                      obtain rfl := some_s h103
                      with_unfolding_all refine TX_move rfl ?_
                      with_unfolding_all refine TX_guard_t rfl rfl (fun hc142 => ?_) (fun hc142 => ?_)
                      · skip
                        replace h107 := ite_t hc142 h107
                        obtain ⟨x104, h105, h107⟩ := bind_s h107
                        have hc143 : CallE Try.prog 26 [.nils] s140 _ := match_Of_ok h105 (RS.nil e_match_Span)
                        with_unfolding_all refine TY_call hM139 rfl en26 hc143 ?_
                        intro v144 s148 hv145 hX146 hM147
                        have hO149 := hO141.ext_call hX146
                        with_unfolding_all refine TX_guard_yes rfl rfl hc142 ?_
                        with_unfolding_all refine TY_len rfl rfl rfl rfl hv145 rfl ?_
                        with_unfolding_all refine TX_guard_yes rfl rfl hc142 ?_
                        with_unfolding_all refine TX_cmp rfl rfl rfl ?_
                        with_unfolding_all refine TX_pick_t rfl hc142 rfl ?_
                        obtain rfl := some_s h107
                        with_unfolding_all refine TX_move rfl ?_
                        with_unfolding_all refine TX_guard_t rfl rfl (fun hc150 => ?_) (fun hc150 => ?_)
                        · skip
                          replace h111 := ite_t hc150 h111
                          obtain ⟨x108, h109, h111⟩ := bind_s h111
                          have hc151 : CallE Try.prog 24 [.nils] s148 _ := match_Holds_ok h109 (RS.nil e_match_Match)
                          with_unfolding_all refine TY_call hM147 rfl en24 hc151 ?_
                          intro v152 s156 hv153 hX154 hM155
                          have hO157 := hO149.ext_call hX154
                          obtain rfl := hv153
                          with_unfolding_all refine TX_guard_yes rfl rfl hc150 ?_
                          with_unfolding_all refine TX_not rfl ?_
                          with_unfolding_all refine TX_pick_t rfl hc150 rfl ?_
                          obtain rfl := some_s h111
                          with_unfolding_all refine TX_assign rfl ?_
                          with_unfolding_all refine TX_nil ?_
                          with_unfolding_all refine thenQ_normal ?_
                          with_unfolding_all refine TE_ret ?_
                          obtain rfl := some_s hF
                          exact done_any (vs := [.bool ((!x108))]) (.inr rfl) rfl (resR_tmp rfl resR_nil) ⟨rfl, hO157.ext⟩
                        · skip
                          replace h111 := ite_f hc150 h111
                          obtain rfl := some_s h111
                          with_unfolding_all refine TX_guard_no_t rfl rfl hc150 ?_
                          with_unfolding_all refine TX_pick_f rfl hc150 rfl ?_
                          with_unfolding_all refine TX_assign rfl ?_
                          with_unfolding_all refine TX_nil ?_
                          with_unfolding_all refine thenQ_normal ?_
                          with_unfolding_all refine TE_ret ?_
                          obtain rfl := some_s hF
                          exact done_any (vs := [.bool (false)]) (.inr rfl) rfl (resR_tmp rfl resR_nil) ⟨rfl, hO149.ext⟩
                      · skip
                        replace h107 := ite_f hc142 h107
                        obtain rfl := some_s h107
                        with_unfolding_all refine TX_guard_no_t rfl rfl hc142 ?_
                        with_unfolding_all refine TX_guard_no_t rfl rfl hc142 ?_
                        with_unfolding_all refine TX_pick_f rfl hc142 rfl ?_
                        with_unfolding_all refine TX_move rfl ?_
                        replace h111 := ite_f rfl h111
                        obtain rfl := some_s h111
                        with_unfolding_all refine TX_guard_no_t rfl rfl rfl ?_
                        with_unfolding_all refine TX_guard_no_t rfl rfl rfl ?_
                        with_unfolding_all refine TX_pick_f rfl rfl rfl ?_
                        with_unfolding_all refine TX_assign rfl ?_
                        with_unfolding_all refine TX_nil ?_
                        with_unfolding_all refine thenQ_normal ?_
                        with_unfolding_all refine TE_ret ?_
                        obtain rfl := some_s hF
                        exact done_any (vs := [.bool (false)]) (.inr rfl) rfl (resR_tmp rfl resR_nil) ⟨rfl, hO141.ext⟩
                    · skip
                      replace h103 := ite_f hc134 h103
                      obtain rfl := some_s h103
                      with_unfolding_all refine TX_guard_no_t rfl rfl hc134 ?_
                      with_unfolding_all refine TX_guard_no_t rfl rfl hc134 ?_
                      with_unfolding_all refine TX_guard_no_t rfl rfl hc134 ?_
                      with_unfolding_all refine TX_guard_no_t rfl rfl hc134 ?_
                      with_unfolding_all refine TX_guard_no_t rfl rfl hc134 ?_
                      with_unfolding_all refine TX_pick_f rfl hc134 rfl ?_
                      with_unfolding_all refine TX_move rfl ?_
                      replace h107 := ite_f rfl h107
                      obtain rfl := some_s h107
                      with_unfolding_all refine TX_guard_no_t rfl rfl rfl ?_
                      with_unfolding_all refine TX_guard_no_t rfl rfl rfl ?_
                      with_unfolding_all refine TX_guard_no_t rfl rfl rfl ?_
                      with_unfolding_all refine TX_pick_f rfl rfl rfl ?_
                      with_unfolding_all refine TX_move rfl ?_
                      replace h111 := ite_f rfl h111
                      obtain rfl := some_s h111
                      with_unfolding_all refine TX_guard_no_t rfl rfl rfl ?_
                      with_unfolding_all refine TX_guard_no_t rfl rfl rfl ?_
                      with_unfolding_all refine TX_pick_f rfl rfl rfl ?_
                      with_unfolding_all refine TX_assign rfl ?_
                      with_unfolding_all refine TX_nil ?_
                      with_unfolding_all refine thenQ_normal ?_
                      with_unfolding_all refine TE_ret ?_
                      obtain rfl := some_s hF
                      exact done_any (vs := [.bool (false)]) (.inr rfl) rfl (resR_tmp rfl resR_nil) ⟨rfl, hO133.ext⟩
                  · skip
                    replace h99 := ite_f hc126 h99
                    obtain rfl := some_s h99
                    with_unfolding_all refine TX_guard_no_t rfl rfl hc126 ?_
                    with_unfolding_all refine TX_pick_f rfl hc126 rfl ?_
                    with_unfolding_all refine TX_move rfl ?_
                    replace h103 := ite_f rfl h103
                    obtain rfl := some_s h103
                    with_unfolding_all refine TX_guard_no_t rfl rfl rfl ?_
                    with_unfolding_all refine TX_guard_no_t rfl rfl rfl ?_
                    with_unfolding_all refine TX_guard_no_t rfl rfl rfl ?_
                    with_unfolding_all refine TX_guard_no_t rfl rfl rfl ?_
                    with_unfolding_all refine TX_guard_no_t rfl rfl rfl ?_
                    with_unfolding_all refine TX_guard_no_t rfl rfl rfl ?_
                    with_unfolding_all refine TX_pick_f rfl rfl rfl ?_
                    with_unfolding_all refine TX_move rfl ?_
                    replace h107 := ite_f rfl h107
                    obtain rfl := some_s h107
                    with_unfolding_all refine TX_guard_no_t rfl rfl rfl ?_
                    with_unfolding_all refine TX_guard_no_t rfl rfl rfl ?_
                    with_unfolding_all refine TX_guard_no_t rfl rfl rfl ?_
                    with_unfolding_all refine TX_pick_f rfl rfl rfl ?_
                    with_unfolding_all refine TX_move rfl ?_
                    replace h111 := ite_f rfl h111
                    obtain rfl := some_s h111
                    with_unfolding_all refine TX_guard_no_t rfl rfl rfl ?_
                    with_unfolding_all refine TX_guard_no_t rfl rfl rfl ?_
                    with_unfolding_all refine TX_pick_f rfl rfl rfl ?_
                    with_unfolding_all refine TX_assign rfl ?_
                    with_unfolding_all refine TX_nil ?_
                    with_unfolding_all refine thenQ_normal ?_
                    with_unfolding_all refine TE_ret ?_
                    obtain rfl := some_s hF
                    exact done_any (vs := [.bool (false)]) (.inr rfl) rfl (resR_tmp rfl resR_nil) ⟨rfl, hO123.ext⟩
                · skip
                  replace h95 := and_f hc125 h95
                  obtain rfl := some_s h95
                  with_unfolding_all refine TX_guard_no_t rfl rfl hc125 ?_
                  with_unfolding_all refine TX_guard_no_t rfl rfl hc125 ?_
                  with_unfolding_all refine TX_pick_f rfl hc125 rfl ?_
                  with_unfolding_all refine TX_move rfl ?_
                  replace h99 := ite_f rfl h99
                  obtain rfl := some_s h99
                  with_unfolding_all refine TX_guard_no_t rfl rfl rfl ?_
                  with_unfolding_all refine TX_guard_no_t rfl rfl rfl ?_
                  with_unfolding_all refine TX_pick_f rfl rfl rfl ?_
                  with_unfolding_all refine TX_move rfl ?_
                  replace h103 := ite_f rfl h103
                  obtain rfl := some_s h103
                  with_unfolding_all refine TX_guard_no_t rfl rfl rfl ?_
                  with_unfolding_all refine TX_guard_no_t rfl rfl rfl ?_
                  with_unfolding_all refine TX_guard_no_t rfl rfl rfl ?_
                  with_unfolding_all refine TX_guard_no_t rfl rfl rfl ?_
                  with_unfolding_all refine TX_guard_no_t rfl rfl rfl ?_
                  with_unfolding_all refine TX_guard_no_t rfl rfl rfl ?_
                  with_unfolding_all refine TX_pick_f rfl rfl rfl ?_
                  with_unfolding_all refine TX_move rfl ?_
                  replace h107 := ite_f rfl h107
                  obtain rfl := some_s h107
                  with_unfolding_all refine TX_guard_no_t rfl rfl rfl ?_
                  with_unfolding_all refine TX_guard_no_t rfl rfl rfl ?_
                  with_unfolding_all refine TX_guard_no_t rfl rfl rfl ?_
                  with_unfolding_all refine TX_pick_f rfl rfl rfl ?_
                  with_unfolding_all refine TX_move rfl ?_
                  replace h111 := ite_f rfl h111
                  obtain rfl := some_s h111
                  with_unfolding_all refine TX_guard_no_t rfl rfl rfl ?_
                  with_unfolding_all refine TX_guard_no_t rfl rfl rfl ?_
                  with_unfolding_all refine TX_pick_f rfl rfl rfl ?_
                  with_unfolding_all refine TX_assign rfl ?_
                  with_unfolding_all refine TX_nil ?_
                  with_unfolding_all refine thenQ_normal ?_
                  with_unfolding_all refine TE_ret ?_
                  obtain rfl := some_s hF
                  exact done_any (vs := [.bool (false)]) (.inr rfl) rfl (resR_tmp rfl resR_nil) ⟨rfl, hO123.ext⟩
              · skip
                replace h93 := and_f hc124 h93
                obtain rfl := some_s h93
                with_unfolding_all refine TX_guard_no_t rfl rfl hc124 ?_
                with_unfolding_all refine TX_guard_no_t rfl rfl hc124 ?_
                with_unfolding_all refine TX_pick_f rfl hc124 rfl ?_
                with_unfolding_all refine TX_move rfl ?_
                replace h95 := and_f rfl h95
                obtain rfl := some_s h95
                with_unfolding_all refine TX_guard_no_t rfl rfl rfl ?_
                with_unfolding_all refine TX_guard_no_t rfl rfl rfl ?_
                with_unfolding_all refine TX_guard_no_t rfl rfl rfl ?_
                with_unfolding_all refine TX_pick_f rfl rfl rfl ?_
                with_unfolding_all refine TX_move rfl ?_
                replace h99 := ite_f rfl h99
                obtain rfl := some_s h99
                with_unfolding_all refine TX_guard_no_t rfl rfl rfl ?_
                with_unfolding_all refine TX_guard_no_t rfl rfl rfl ?_
                with_unfolding_all refine TX_pick_f rfl rfl rfl ?_
                with_unfolding_all refine TX_move rfl ?_
                replace h103 := ite_f rfl h103
                obtain rfl := some_s h103
                with_unfolding_all refine TX_guard_no_t rfl rfl rfl ?_
                with_unfolding_all refine TX_guard_no_t rfl rfl rfl ?_
                with_unfolding_all refine TX_guard_no_t rfl rfl rfl ?_
                with_unfolding_all refine TX_guard_no_t rfl rfl rfl ?_
                with_unfolding_all refine TX_guard_no_t rfl rfl rfl ?_
                with_unfolding_all refine TX_guard_no_t rfl rfl rfl ?_
                with_unfolding_all refine TX_pick_f rfl rfl rfl ?_
                with_unfolding_all refine TX_move rfl ?_
                replace h107 := ite_f rfl h107
                obtain rfl := some_s h107
                with_unfolding_all refine TX_guard_no_t rfl rfl rfl ?_
                with_unfolding_all refine TX_guard_no_t rfl rfl rfl ?_
                with_unfolding_all refine TX_guard_no_t rfl rfl rfl ?_
                with_unfolding_all refine TX_pick_f rfl rfl rfl ?_
                with_unfolding_all refine TX_move rfl ?_
                replace h111 := ite_f rfl h111
                obtain rfl := some_s h111
                with_unfolding_all refine TX_guard_no_t rfl rfl rfl ?_
                with_unfolding_all refine TX_guard_no_t rfl rfl rfl ?_
                with_unfolding_all refine TX_pick_f rfl rfl rfl ?_
                with_unfolding_all refine TX_assign rfl ?_
                with_unfolding_all refine TX_nil ?_
                with_unfolding_all refine thenQ_normal ?_
                with_unfolding_all refine TE_ret ?_
                obtain rfl := some_s hF
                exact done_any (vs := [.bool (false)]) (.inr rfl) rfl (resR_tmp rfl resR_nil) ⟨rfl, hO123.ext⟩
            · skip
              replace h91 := ite_f hc116 h91
              obtain rfl := some_s h91
              with_unfolding_all refine TX_guard_no_t rfl rfl hc116 ?_
              with_unfolding_all refine TX_guard_no_t rfl rfl hc116 ?_
              with_unfolding_all refine TX_pick_f rfl hc116 rfl ?_
              with_unfolding_all refine TX_move rfl ?_
              replace h93 := and_f rfl h93
              obtain rfl := some_s h93
              with_unfolding_all refine TX_guard_no_t rfl rfl rfl ?_
              with_unfolding_all refine TX_guard_no_t rfl rfl rfl ?_
              with_unfolding_all refine TX_guard_no_t rfl rfl rfl ?_
              with_unfolding_all refine TX_pick_f rfl rfl rfl ?_
              with_unfolding_all refine TX_move rfl ?_
              replace h95 := and_f rfl h95
              obtain rfl := some_s h95
              with_unfolding_all refine TX_guard_no_t rfl rfl rfl ?_
              with_unfolding_all refine TX_guard_no_t rfl rfl rfl ?_
              with_unfolding_all refine TX_guard_no_t rfl rfl rfl ?_
              with_unfolding_all refine TX_pick_f rfl rfl rfl ?_
              with_unfolding_all refine TX_move rfl ?_
              replace h99 := ite_f rfl h99
              obtain rfl := some_s h99
              with_unfolding_all refine TX_guard_no_t rfl rfl rfl ?_
              with_unfolding_all refine TX_guard_no_t rfl rfl rfl ?_
              with_unfolding_all refine TX_pick_f rfl rfl rfl ?_
              with_unfolding_all refine TX_move rfl ?_
              replace h103 := ite_f rfl h103
              obtain rfl := some_s h103
              with_unfolding_all refine TX_guard_no_t rfl rfl rfl ?_
              with_unfolding_all refine TX_guard_no_t rfl rfl rfl ?_
              with_unfolding_all refine TX_guard_no_t rfl rfl rfl ?_
              with_unfolding_all refine TX_guard_no_t rfl rfl rfl ?_
              with_unfolding_all refine TX_guard_no_t rfl rfl rfl ?_
              with_unfolding_all refine TX_guard_no_t rfl rfl rfl ?_
              with_unfolding_all refine TX_pick_f rfl rfl rfl ?_
              with_unfolding_all refine TX_move rfl ?_
              replace h107 := ite_f rfl h107
              obtain rfl := some_s h107
              with_unfolding_all refine TX_guard_no_t rfl rfl rfl ?_
              with_unfolding_all refine TX_guard_no_t rfl rfl rfl ?_
              with_unfolding_all refine TX_guard_no_t rfl rfl rfl ?_
              with_unfolding_all refine TX_pick_f rfl rfl rfl ?_
              with_unfolding_all refine TX_move rfl ?_
              replace h111 := ite_f rfl h111
              obtain rfl := some_s h111
              with_unfolding_all refine TX_guard_no_t rfl rfl rfl ?_
              with_unfolding_all refine TX_guard_no_t rfl rfl rfl ?_
              with_unfolding_all refine TX_pick_f rfl rfl rfl ?_
              with_unfolding_all refine TX_assign rfl ?_
              with_unfolding_all refine TX_nil ?_
              with_unfolding_all refine thenQ_normal ?_
              with_unfolding_all refine TE_ret ?_
              obtain rfl := some_s hF
              exact done_any (vs := [.bool (false)]) (.inr rfl) rfl (resR_tmp rfl resR_nil) ⟨rfl, hO77.ext⟩
          · skip
            replace h87 := and_f hc115 h87
            obtain rfl := some_s h87
            with_unfolding_all refine TX_guard_no_t rfl rfl hc115 ?_
            with_unfolding_all refine TX_pick_f rfl hc115 rfl ?_
            with_unfolding_all refine TX_move rfl ?_
            replace h91 := ite_f rfl h91
            obtain rfl := some_s h91
            with_unfolding_all refine TX_guard_no_t rfl rfl rfl ?_
            with_unfolding_all refine TX_guard_no_t rfl rfl rfl ?_
            with_unfolding_all refine TX_guard_no_t rfl rfl rfl ?_
            with_unfolding_all refine TX_pick_f rfl rfl rfl ?_
            with_unfolding_all refine TX_move rfl ?_
            replace h93 := and_f rfl h93
            obtain rfl := some_s h93
            with_unfolding_all refine TX_guard_no_t rfl rfl rfl ?_
            with_unfolding_all refine TX_guard_no_t rfl rfl rfl ?_
            with_unfolding_all refine TX_guard_no_t rfl rfl rfl ?_
            with_unfolding_all refine TX_pick_f rfl rfl rfl ?_
            with_unfolding_all refine TX_move rfl ?_
            replace h95 := and_f rfl h95
            obtain rfl := some_s h95
            with_unfolding_all refine TX_guard_no_t rfl rfl rfl ?_
            with_unfolding_all refine TX_guard_no_t rfl rfl rfl ?_
            with_unfolding_all refine TX_guard_no_t rfl rfl rfl ?_
            with_unfolding_all refine TX_pick_f rfl rfl rfl ?_
            with_unfolding_all refine TX_move rfl ?_
            replace h99 := ite_f rfl h99
            obtain rfl := some_s h99
            with_unfolding_all refine TX_guard_no_t rfl rfl rfl ?_
            with_unfolding_all refine TX_guard_no_t rfl rfl rfl ?_
            with_unfolding_all refine TX_pick_f rfl rfl rfl ?_
            with_unfolding_all refine TX_move rfl ?_
            replace h103 := ite_f rfl h103
            obtain rfl := some_s h103
            with_unfolding_all refine TX_guard_no_t rfl rfl rfl ?_
            with_unfolding_all refine TX_guard_no_t rfl rfl rfl ?_
            with_unfolding_all refine TX_guard_no_t rfl rfl rfl ?_
            with_unfolding_all refine TX_guard_no_t rfl rfl rfl ?_
            with_unfolding_all refine TX_guard_no_t rfl rfl rfl ?_
            with_unfolding_all refine TX_guard_no_t rfl rfl rfl ?_
            with_unfolding_all refine TX_pick_f rfl rfl rfl ?_
            with_unfolding_all refine TX_move rfl ?_
            replace h107 := ite_f rfl h107
            obtain rfl := some_s h107
            with_unfolding_all refine TX_guard_no_t rfl rfl rfl ?_
            with_unfolding_all refine TX_guard_no_t rfl rfl rfl ?_
            with_unfolding_all refine TX_guard_no_t rfl rfl rfl ?_
            with_unfolding_all refine TX_pick_f rfl rfl rfl ?_
            with_unfolding_all refine TX_move rfl ?_
            replace h111 := ite_f rfl h111
            obtain rfl := some_s h111
            with_unfolding_all refine TX_guard_no_t rfl rfl rfl ?_
            with_unfolding_all refine TX_guard_no_t rfl rfl rfl ?_
            with_unfolding_all refine TX_pick_f rfl rfl rfl ?_
            with_unfolding_all refine TX_assign rfl ?_
            with_unfolding_all refine TX_nil ?_
            with_unfolding_all refine thenQ_normal ?_
            with_unfolding_all refine TE_ret ?_
            obtain rfl := some_s hF
            exact done_any (vs := [.bool (false)]) (.inr rfl) rfl (resR_tmp rfl resR_nil) ⟨rfl, hO77.ext⟩
        · skip
          replace h85 := and_f hc114 h85
          obtain rfl := some_s h85
          with_unfolding_all refine TX_guard_no_t rfl rfl hc114 ?_
          with_unfolding_all refine TX_pick_f rfl hc114 rfl ?_
          with_unfolding_all refine TX_move rfl ?_
          replace h87 := and_f rfl h87
          obtain rfl := some_s h87
          with_unfolding_all refine TX_guard_no_t rfl rfl rfl ?_
          with_unfolding_all refine TX_guard_no_t rfl rfl rfl ?_
          with_unfolding_all refine TX_pick_f rfl rfl rfl ?_
          with_unfolding_all refine TX_move rfl ?_
          replace h91 := ite_f rfl h91
          obtain rfl := some_s h91
          with_unfolding_all refine TX_guard_no_t rfl rfl rfl ?_
          with_unfolding_all refine TX_guard_no_t rfl rfl rfl ?_
          with_unfolding_all refine TX_guard_no_t rfl rfl rfl ?_
          with_unfolding_all refine TX_pick_f rfl rfl rfl ?_
          with_unfolding_all refine TX_move rfl ?_
          replace h93 := and_f rfl h93
          obtain rfl := some_s h93
          with_unfolding_all refine TX_guard_no_t rfl rfl rfl ?_
          with_unfolding_all refine TX_guard_no_t rfl rfl rfl ?_
          with_unfolding_all refine TX_guard_no_t rfl rfl rfl ?_
          with_unfolding_all refine TX_pick_f rfl rfl rfl ?_
          with_unfolding_all refine TX_move rfl ?_
          replace h95 := and_f rfl h95
          obtain rfl := some_s h95
          with_unfolding_all refine TX_guard_no_t rfl rfl rfl ?_
          with_unfolding_all refine TX_guard_no_t rfl rfl rfl ?_
          with_unfolding_all refine TX_guard_no_t rfl rfl rfl ?_
          with_unfolding_all refine TX_pick_f rfl rfl rfl ?_
          with_unfolding_all refine TX_move rfl ?_
          replace h99 := ite_f rfl h99
          obtain rfl := some_s h99
          with_unfolding_all refine TX_guard_no_t rfl rfl rfl ?_
          with_unfolding_all refine TX_guard_no_t rfl rfl rfl ?_
          with_unfolding_all refine TX_pick_f rfl rfl rfl ?_
          with_unfolding_all refine TX_move rfl ?_
          replace h103 := ite_f rfl h103
          obtain rfl := some_s h103
          with_unfolding_all refine TX_guard_no_t rfl rfl rfl ?_
          with_unfolding_all refine TX_guard_no_t rfl rfl rfl ?_
          with_unfolding_all refine TX_guard_no_t rfl rfl rfl ?_
          with_unfolding_all refine TX_guard_no_t rfl rfl rfl ?_
          with_unfolding_all refine TX_guard_no_t rfl rfl rfl ?_
          with_unfolding_all refine TX_guard_no_t rfl rfl rfl ?_
          with_unfolding_all refine TX_pick_f rfl rfl rfl ?_
          with_unfolding_all refine TX_move rfl ?_
          replace h107 := ite_f rfl h107
          obtain rfl := some_s h107
          with_unfolding_all refine TX_guard_no_t rfl rfl rfl ?_
          with_unfolding_all refine TX_guard_no_t rfl rfl rfl ?_
          with_unfolding_all refine TX_guard_no_t rfl rfl rfl ?_
          with_unfolding_all refine TX_pick_f rfl rfl rfl ?_
          with_unfolding_all refine TX_move rfl ?_
          replace h111 := ite_f rfl h111
          obtain rfl := some_s h111
          with_unfolding_all refine TX_guard_no_t rfl rfl rfl ?_
          with_unfolding_all refine TX_guard_no_t rfl rfl rfl ?_
          with_unfolding_all refine TX_pick_f rfl rfl rfl ?_
          with_unfolding_all refine TX_assign rfl ?_
          with_unfolding_all refine TX_nil ?_
          with_unfolding_all refine thenQ_normal ?_
          with_unfolding_all refine TE_ret ?_
          obtain rfl := some_s hF
          exact done_any (vs := [.bool (false)]) (.inr rfl) rfl (resR_tmp rfl resR_nil) ⟨rfl, hO77.ext⟩
      · skip
        replace h83 := and_f hc113 h83
        obtain rfl := some_s h83
        with_unfolding_all refine TX_guard_no_t rfl rfl hc113 ?_
        with_unfolding_all refine TX_pick_f rfl hc113 rfl ?_
        with_unfolding_all refine TX_move rfl ?_
        replace h85 := and_f rfl h85
        obtain rfl := some_s h85
        with_unfolding_all refine TX_guard_no_t rfl rfl rfl ?_
        with_unfolding_all refine TX_guard_no_t rfl rfl rfl ?_
        with_unfolding_all refine TX_pick_f rfl rfl rfl ?_
        with_unfolding_all refine TX_move rfl ?_
        replace h87 := and_f rfl h87
        obtain rfl := some_s h87
        with_unfolding_all refine TX_guard_no_t rfl rfl rfl ?_
        with_unfolding_all refine TX_guard_no_t rfl rfl rfl ?_
        with_unfolding_all refine TX_pick_f rfl rfl rfl ?_
        with_unfolding_all refine TX_move rfl ?_
        replace h91 := ite_f rfl h91
        obtain rfl := some_s h91
        with_unfolding_all refine TX_guard_no_t rfl rfl rfl ?_
        with_unfolding_all refine TX_guard_no_t rfl rfl rfl ?_
        with_unfolding_all refine TX_guard_no_t rfl rfl rfl ?_
        with_unfolding_all refine TX_pick_f rfl rfl rfl ?_
        with_unfolding_all refine TX_move rfl ?_
        replace h93 := and_f rfl h93
        obtain rfl := some_s h93
        with_unfolding_all refine TX_guard_no_t rfl rfl rfl ?_
        with_unfolding_all refine TX_guard_no_t rfl rfl rfl ?_
        with_unfolding_all refine TX_guard_no_t rfl rfl rfl ?_
        with_unfolding_all refine TX_pick_f rfl rfl rfl ?_
        with_unfolding_all refine TX_move rfl ?_
        replace h95 := and_f rfl h95
        obtain rfl := some_s h95
        with_unfolding_all refine TX_guard_no_t rfl rfl rfl ?_
        with_unfolding_all refine TX_guard_no_t rfl rfl rfl ?_
        with_unfolding_all refine TX_guard_no_t rfl rfl rfl ?_
        with_unfolding_all refine TX_pick_f rfl rfl rfl ?_
        with_unfolding_all refine TX_move rfl ?_
        replace h99 := ite_f rfl h99
        obtain rfl := some_s h99
        with_unfolding_all refine TX_guard_no_t rfl rfl rfl ?_
        with_unfolding_all refine TX_guard_no_t rfl rfl rfl ?_
        with_unfolding_all refine TX_pick_f rfl rfl rfl ?_
        with_unfolding_all refine TX_move rfl ?_
        replace h103 := ite_f rfl h103
        obtain rfl := some_s h103
        with_unfolding_all refine TX_guard_no_t rfl rfl rfl ?_
        with_unfolding_all refine TX_guard_no_t rfl rfl rfl ?_
        with_unfolding_all refine TX_guard_no_t rfl rfl rfl ?_
        with_unfolding_all refine TX_guard_no_t rfl rfl rfl ?_
        with_unfolding_all refine TX_guard_no_t rfl rfl rfl ?_
        with_unfolding_all refine TX_guard_no_t rfl rfl rfl ?_
        with_unfolding_all refine TX_pick_f rfl rfl rfl ?_
        with_unfolding_all refine TX_move rfl ?_
        replace h107 := ite_f rfl h107
        obtain rfl := some_s h107
        with_unfolding_all refine TX_guard_no_t rfl rfl rfl ?_
        with_unfolding_all refine TX_guard_no_t rfl rfl rfl ?_
        with_unfolding_all refine TX_guard_no_t rfl rfl rfl ?_
        with_unfolding_all refine TX_pick_f rfl rfl rfl ?_
        with_unfolding_all refine TX_move rfl ?_
        replace h111 := ite_f rfl h111
        obtain rfl := some_s h111
        with_unfolding_all refine TX_guard_no_t rfl rfl rfl ?_
        with_unfolding_all refine TX_guard_no_t rfl rfl rfl ?_
        with_unfolding_all refine TX_pick_f rfl rfl rfl ?_
        with_unfolding_all refine TX_assign rfl ?_
        with_unfolding_all refine TX_nil ?_
        with_unfolding_all refine thenQ_normal ?_
        with_unfolding_all refine TE_ret ?_
        obtain rfl := some_s hF
        exact done_any (vs := [.bool (false)]) (.inr rfl) rfl (resR_tmp rfl resR_nil) ⟨rfl, hO77.ext⟩
end Go.Proofs.Ytihbdelgoapeoaa.K
