/- Walks. Printed. -/
import Derived.Test.YtihbdelgoapeoaaGW9
namespace Go.Proofs.Ytihbdelgoapeoaa.K
open Go Go.RowKit F
set_option maxRecDepth 100000
set_option maxHeartbeats 4000000
set_option linter.unusedVariables false
set_option linter.unusedSimpArgs false
theorem law12_MatchTimes_ok {x0_ : (List match_Match)} {x1_ : Int} {x2_ : Int} {y : Bool} (hF : F.law12_MatchTimes x0_ x1_ x2_ = some y) {v0_ : AV} {v1_ : AV} {v2_ : AV} {σ : Mem} (h0_ : (RS e_match_Match) v0_ x0_) (h1_ : (eI .i64).rel v1_ x1_) (h2_ : (eI .i64).rel v2_ x2_)  :
    CallE Try.prog 7 [v0_, v1_, v2_] σ (fun v σ' => eB.rel v y ∧ Ext σ σ') := by
  unfold F.law12_MatchTimes at hF
  obtain rfl := h1_
  obtain rfl := h2_
  refine CallE_of Try.func7 rfl Try.ntmps7 (by simp) ?_
  have hO0 := Own.start σ
  with_unfolding_all refine TE_seq ?_
  with_unfolding_all refine TE_seqY ?_
  have hM1 := MB_none σ
  with_unfolding_all refine TX_assign rfl ?_
  with_unfolding_all refine TX_nil ?_
  with_unfolding_all refine thenQ_normal ?_
  with_unfolding_all refine TE_seq ?_
  with_unfolding_all refine TE_seq ?_
  obtain ⟨x2, h3, hF⟩ := bind_s hF
  with_unfolding_all refine TE_seqY ?_
  have hM4 := MB_none σ
  have hc5 : CallE Try.prog 14 [] σ _ := law12_head_ok h3 
  with_unfolding_all refine TY_call hM4 rfl en14 hc5 ?_
  intro v6 s10 hv7 hX8 hM9
  have hO11 := hO0.ext_call hX8
  obtain rfl := hv7
  with_unfolding_all refine TX_not rfl ?_
  with_unfolding_all refine TX_nil ?_
  with_unfolding_all refine thenQ_normal ?_
  with_unfolding_all refine TE_cond rfl (fun hc12 => ?_) (fun hc12 => ?_)
  · skip
    replace hF := ite_t hc12 hF
    with_unfolding_all refine TE_seq ?_
    with_unfolding_all refine TE_seqY ?_
    have hM13 := MB_none s10
    with_unfolding_all refine TX_assign rfl ?_
    with_unfolding_all refine TX_nil ?_
    with_unfolding_all refine thenQ_normal ?_
    with_unfolding_all refine TE_ret ?_
    with_unfolding_all refine thenQ_ret ?_
    obtain rfl := some_s hF
    exact done_any (vs := [.bool (false)]) (.inr rfl) rfl (resR_tmp rfl resR_nil) ⟨rfl, hO11.ext⟩
  · skip
    replace hF := ite_f hc12 hF
    with_unfolding_all refine TE_skip ?_
    with_unfolding_all refine thenQ_normal ?_
    with_unfolding_all refine TE_seq ?_
    with_unfolding_all refine TE_seq ?_
    obtain ⟨x14, h15, hF⟩ := bind_s hF
    with_unfolding_all refine TE_seqY ?_
    have hM16 := MB_none s10
    with_unfolding_all refine TX_move rfl ?_
    have hc17 : CallE Try.prog 15 [v0_, .int .i64 (7)] s10 _ := law12_Good_ok h15 h0_ rfl
    with_unfolding_all refine TY_call hM16 rfl en15 hc17 ?_
    intro v18 s22 hv19 hX20 hM21
    have hO23 := hO11.ext_call hX20
    obtain rfl := hv19
    with_unfolding_all refine TX_not rfl ?_
    with_unfolding_all refine TX_nil ?_
    with_unfolding_all refine thenQ_normal ?_
    with_unfolding_all refine TE_cond rfl (fun hc24 => ?_) (fun hc24 => ?_)
    · skip
      replace hF := ite_t hc24 hF
      with_unfolding_all refine TE_seq ?_
      with_unfolding_all refine TE_seqY ?_
      have hM25 := MB_none s22
      with_unfolding_all refine TX_assign rfl ?_
      with_unfolding_all refine TX_nil ?_
      with_unfolding_all refine thenQ_normal ?_
      with_unfolding_all refine TE_ret ?_
      with_unfolding_all refine thenQ_ret ?_
      obtain rfl := some_s hF
      exact done_any (vs := [.bool (true)]) (.inr rfl) rfl (resR_tmp rfl resR_nil) ⟨rfl, hO23.ext⟩
    · skip
      replace hF := ite_f hc24 hF
      with_unfolding_all refine TE_skip ?_
      with_unfolding_all refine thenQ_normal ?_
      with_unfolding_all refine TE_seq ?_
      with_unfolding_all refine TE_seqY ?_
      have hM26 := MB_none s22
      with_unfolding_all refine TX_move rfl ?_
      with_unfolding_all refine TX_bit rfl rfl rfl ?_
      with_unfolding_all refine TX_assign rfl ?_
      with_unfolding_all refine TX_nil ?_
      with_unfolding_all refine thenQ_normal ?_
      with_unfolding_all refine TE_seq ?_
      with_unfolding_all refine TE_seqY ?_
      have hM27 := MB_none s22
      with_unfolding_all refine TX_move rfl ?_
      with_unfolding_all refine TX_bit rfl rfl rfl ?_
      with_unfolding_all refine TX_ari rfl rfl rfl ?_
      with_unfolding_all refine TX_assign rfl ?_
      with_unfolding_all refine TX_nil ?_
      with_unfolding_all refine thenQ_normal ?_
      with_unfolding_all refine TE_seq ?_
      obtain ⟨x28, h29, hF⟩ := bind_s hF
      with_unfolding_all refine TE_seqY ?_
      have hM30 := MB_none s22
      with_unfolding_all refine TX_move rfl ?_
      with_unfolding_all refine TX_move rfl ?_
      with_unfolding_all refine TX_move rfl ?_
      with_unfolding_all refine TY_build [.int .i64 ((band .i64 x1_ 7)), .int .i64 ((IntKind.wrap .i64 ((band .i64 x2_ 15) - 1)))] rfl rfl rfl (by with_unfolding_all exact Fill.cons rfl rfl rfl (by with_unfolding_all exact Nat.le_of_ble_eq_true rfl) (Fill.cons rfl rfl rfl (by with_unfolding_all exact Nat.le_of_ble_eq_true rfl) (Fill.nil _))) (by with_unfolding_all rfl) ?_
      have hc31 : CallE Try.prog 32 [v0_, .agg [.int .i64 ((band .i64 x1_ 7)), .int .i64 ((IntKind.wrap .i64 ((band .i64 x2_ 15) - 1)))]] s22 _ := match_Times_ok h29 h0_ rfl
      with_unfolding_all refine TY_call hM30 rfl en32 hc31 ?_
      intro v32 s36 hv33 hX34 hM35
      have hO37 := hO23.ext_call hX34
      obtain ⟨v38, v39, rfl, h40, h41⟩ := hv33
      obtain rfl := h41
      with_unfolding_all refine TX_move rfl ?_
      with_unfolding_all refine TX_extract rfl rfl ?_
      with_unfolding_all refine TX_extract rfl rfl ?_
      with_unfolding_all refine TX_assign rfl ?_
      with_unfolding_all refine TX_assign rfl ?_
      with_unfolding_all refine TX_nil ?_
      with_unfolding_all refine thenQ_normal ?_
      with_unfolding_all refine TE_seq ?_
      obtain ⟨x42, h43, hF⟩ := bind_s hF
      with_unfolding_all refine TE_seqY ?_
      have hM44 := MB_none s36
      with_unfolding_all refine TX_move rfl ?_
      with_unfolding_all refine TX_move rfl ?_
      with_unfolding_all refine TY_build [.nils, .nils] rfl rfl rfl (by with_unfolding_all exact Fill.nil _) (by with_unfolding_all rfl) ?_
      have hO45 : Own σ [] s36 [.buf .nils] := hO37.buf0
      have hc46 : CallE Try.prog 33 [v0_, .int .i64 (0), .int .i64 ((band .i64 x1_ 7)), .agg [.nils, .nils], .nils] s36 _ := law12_choose_ok h43 h0_ rfl rfl ⟨.nils, .nils, rfl, (RS.nil e_match_Span), (RS.nil e_match_Span)⟩ (RS.nil e_match_Match) (hO45.ok _ List.mem_cons_self)
      with_unfolding_all refine TY_callB (u := .nils) hM44 (hO45.ok _ List.mem_cons_self) rfl en33 hc46 (fun _ _ h => ⟨_, h.2⟩) ?_
      rintro v47 s51 ⟨hv48, hX49⟩ hM50
      have hO52 : Own σ [] s51 [.buf v47] := Own.call (A := [.buf .nils]) hO45 hX49
      with_unfolding_all refine TX_assign rfl ?_
      with_unfolding_all refine TX_nil ?_
      with_unfolding_all refine thenQ_normal ?_
      with_unfolding_all refine TE_seq ?_
      with_unfolding_all refine TE_seq ?_
      with_unfolding_all refine TE_seqY ?_
      have hM53 := MB_none s51
      with_unfolding_all refine TX_move rfl ?_
      with_unfolding_all refine TX_move rfl ?_
      with_unfolding_all refine TY_len rfl rfl rfl rfl h0_ rfl ?_
      with_unfolding_all refine TX_cmp rfl rfl rfl ?_
      with_unfolding_all refine TX_nil ?_
      with_unfolding_all refine thenQ_normal ?_
      with_unfolding_all refine TE_cond rfl (fun hc54 => ?_) (fun hc54 => ?_)
      · skip
        replace hF := ite_t hc54 hF
        with_unfolding_all refine TE_seq ?_
        with_unfolding_all refine TE_seq ?_
        with_unfolding_all refine TE_seqY ?_
        have hM55 := MB_none s51
        with_unfolding_all refine TX_move rfl ?_
        with_unfolding_all refine TX_cmp rfl rfl rfl ?_
        with_unfolding_all refine TX_nil ?_
        with_unfolding_all refine thenQ_normal ?_
        with_unfolding_all refine TE_cond rfl (fun hc56 => ?_) (fun hc56 => ?_)
        · skip
          replace hF := ite_t hc56 hF
          with_unfolding_all refine TE_seq ?_
          obtain ⟨r57, h58, hF⟩ := bind_s hF
          with_unfolding_all refine TE_seqY ?_
          have hM59 := MB_none s51
          with_unfolding_all refine TX_move rfl ?_
          with_unfolding_all refine TX_cmp rfl rfl rfl ?_
          with_unfolding_all refine TX_move rfl ?_
          with_unfolding_all refine TX_guard_t rfl rfl (fun hc60 => ?_) (fun hc60 => ?_)
          · skip
            replace h58 := and_t hc60 h58
            with_unfolding_all refine TX_move rfl ?_
            with_unfolding_all refine TX_guard_yes rfl rfl hc60 ?_
            with_unfolding_all refine TY_len rfl rfl rfl rfl h40 rfl ?_
            with_unfolding_all refine TX_guard_yes rfl rfl hc60 ?_
            with_unfolding_all refine TX_cmp rfl rfl rfl ?_
            with_unfolding_all refine TX_pick_t rfl hc60 rfl ?_
            obtain rfl := some_s h58
            with_unfolding_all refine TX_assign rfl ?_
            with_unfolding_all refine TX_nil ?_
            with_unfolding_all refine thenQ_normal ?_
            with_unfolding_all refine TE_ret ?_
            with_unfolding_all refine thenQ_ret ?_
            with_unfolding_all refine thenQ_ret ?_
            obtain rfl := some_s hF
            exact done_any (vs := [.bool (((x28.1.length : Int) == 0))]) (.inr rfl) rfl (resR_tmp rfl resR_nil) ⟨rfl, hO52.ext⟩
          · skip
            replace h58 := and_f hc60 h58
            obtain rfl := some_s h58
            with_unfolding_all refine TX_guard_no_t rfl rfl hc60 ?_
            with_unfolding_all refine TX_guard_no_t rfl rfl hc60 ?_
            with_unfolding_all refine TX_pick_f rfl hc60 rfl ?_
            with_unfolding_all refine TX_assign rfl ?_
            with_unfolding_all refine TX_nil ?_
            with_unfolding_all refine thenQ_normal ?_
            with_unfolding_all refine TE_ret ?_
            with_unfolding_all refine thenQ_ret ?_
            with_unfolding_all refine thenQ_ret ?_
            obtain rfl := some_s hF
            exact done_any (vs := [.bool (false)]) (.inr rfl) rfl (resR_tmp rfl resR_nil) ⟨rfl, hO52.ext⟩
        · skip
          replace hF := ite_f hc56 hF
          with_unfolding_all refine TE_skip ?_
          with_unfolding_all refine thenQ_normal ?_
          with_unfolding_all refine TE_seq ?_
          obtain ⟨x61, h62, hF⟩ := bind_s hF
          obtain ⟨x63, h64, hF⟩ := bind_s hF
          with_unfolding_all refine TE_seqY ?_
          have hM65 := MB_none s51
          with_unfolding_all refine TX_move rfl ?_
          with_unfolding_all refine TX_move rfl ?_
          with_unfolding_all refine TX_ari rfl rfl rfl ?_
          with_unfolding_all refine TY_build [.nils, .nils] rfl rfl rfl (by with_unfolding_all exact Fill.nil _) (by with_unfolding_all rfl) ?_
          have hO66 : Own σ [] s51 [.buf .nils, .buf v47] := hO52.buf0
          have hc67 : CallE Try.prog 33 [v0_, .int .i64 (0), .int .i64 ((IntKind.wrap .i64 ((IntKind.wrap .i64 ((band .i64 x2_ 15) - 1)) + 1))), .agg [.nils, .nils], .nils] s51 _ := law12_choose_ok h62 h0_ rfl rfl ⟨.nils, .nils, rfl, (RS.nil e_match_Span), (RS.nil e_match_Span)⟩ (RS.nil e_match_Match) (hO66.ok _ List.mem_cons_self)
          with_unfolding_all refine TY_callB (u := .nils) hM65 (hO66.ok _ List.mem_cons_self) rfl en33 hc67 (fun _ _ h => ⟨_, h.2⟩) ?_
          rintro v68 s72 ⟨hv69, hX70⟩ hM71
          have hO73 : Own σ [] s72 [.buf v68, .buf v47] := Own.call (A := [.buf .nils]) hO66 hX70
          have hc74 : CallE Try.prog 22 [v68] s72 _ := law12_not_ok h64 hv69
          with_unfolding_all refine TY_call hM71 rfl en22 hc74 ?_
          intro v75 s79 hv76 hX77 hM78
          have hO80 := hO73.ext_call hX77
          obtain ⟨v81, v82, rfl, h83, h84⟩ := hv76
          obtain rfl := h84
          with_unfolding_all refine TX_move rfl ?_
          with_unfolding_all refine TX_extract rfl rfl ?_
          with_unfolding_all refine TX_extract rfl rfl ?_
          with_unfolding_all refine TX_assign rfl ?_
          with_unfolding_all refine TX_assign rfl ?_
          with_unfolding_all refine TX_nil ?_
          with_unfolding_all refine thenQ_normal ?_
          with_unfolding_all refine TE_seq ?_
          with_unfolding_all refine TE_seq ?_
          with_unfolding_all refine TE_seqY ?_
          have hM85 := MB_none s79
          with_unfolding_all refine TX_move rfl ?_
          with_unfolding_all refine TX_not rfl ?_
          with_unfolding_all refine TX_nil ?_
          with_unfolding_all refine thenQ_normal ?_
          with_unfolding_all refine TE_cond rfl (fun hc86 => ?_) (fun hc86 => ?_)
          · skip
            replace hF := ite_t hc86 hF
            with_unfolding_all refine TE_seq ?_
            obtain ⟨r87, h88, hF⟩ := bind_s hF
            with_unfolding_all refine TE_seqY ?_
            have hM89 := MB_none s79
            with_unfolding_all refine TX_move rfl ?_
            with_unfolding_all refine TX_cmp rfl rfl rfl ?_
            with_unfolding_all refine TX_move rfl ?_
            with_unfolding_all refine TX_guard_t rfl rfl (fun hc90 => ?_) (fun hc90 => ?_)
            · skip
              replace h88 := and_t hc90 h88
              with_unfolding_all refine TX_move rfl ?_
              with_unfolding_all refine TX_guard_yes rfl rfl hc90 ?_
              with_unfolding_all refine TY_len rfl rfl rfl rfl h40 rfl ?_
              with_unfolding_all refine TX_guard_yes rfl rfl hc90 ?_
              with_unfolding_all refine TX_cmp rfl rfl rfl ?_
              with_unfolding_all refine TX_pick_t rfl hc90 rfl ?_
              obtain rfl := some_s h88
              with_unfolding_all refine TX_assign rfl ?_
              with_unfolding_all refine TX_nil ?_
              with_unfolding_all refine thenQ_normal ?_
              with_unfolding_all refine TE_ret ?_
              with_unfolding_all refine thenQ_ret ?_
              with_unfolding_all refine thenQ_ret ?_
              obtain rfl := some_s hF
              exact done_any (vs := [.bool (((x28.1.length : Int) == 0))]) (.inr rfl) rfl (resR_tmp rfl resR_nil) ⟨rfl, hO80.ext⟩
            · skip
              replace h88 := and_f hc90 h88
              obtain rfl := some_s h88
              with_unfolding_all refine TX_guard_no_t rfl rfl hc90 ?_
              with_unfolding_all refine TX_guard_no_t rfl rfl hc90 ?_
              with_unfolding_all refine TX_pick_f rfl hc90 rfl ?_
              with_unfolding_all refine TX_assign rfl ?_
              with_unfolding_all refine TX_nil ?_
              with_unfolding_all refine thenQ_normal ?_
              with_unfolding_all refine TE_ret ?_
              with_unfolding_all refine thenQ_ret ?_
              with_unfolding_all refine thenQ_ret ?_
              obtain rfl := some_s hF
              exact done_any (vs := [.bool (false)]) (.inr rfl) rfl (resR_tmp rfl resR_nil) ⟨rfl, hO80.ext⟩
          · skip
            replace hF := ite_f hc86 hF
            with_unfolding_all refine TE_skip ?_
            with_unfolding_all refine thenQ_normal ?_
            with_unfolding_all refine TE_seq ?_
            obtain ⟨x91, h92, hF⟩ := bind_s hF
            with_unfolding_all refine TE_seqY ?_
            have hM93 := MB_none s79
            with_unfolding_all refine TX_move rfl ?_
            with_unfolding_all refine TX_move rfl ?_
            have hc94 : CallE Try.prog 21 [v47, v81] s79 _ := law12_and_ok h92 hv48 h83
            with_unfolding_all refine TY_call hM93 rfl en21 hc94 ?_
            intro v95 s99 hv96 hX97 hM98
            have hO100 := hO80.ext_call hX97
            obtain ⟨v101, v102, rfl, h103, h104⟩ := hv96
            obtain rfl := h104
            with_unfolding_all refine TX_move rfl ?_
            with_unfolding_all refine TX_extract rfl rfl ?_
            with_unfolding_all refine TX_extract rfl rfl ?_
            with_unfolding_all refine TX_assign rfl ?_
            with_unfolding_all refine TX_assign rfl ?_
            with_unfolding_all refine TX_nil ?_
            with_unfolding_all refine thenQ_normal ?_
            with_unfolding_all refine TE_seq ?_
            with_unfolding_all refine TE_seqY ?_
            have hM105 := MB_none s99
            with_unfolding_all refine TX_move rfl ?_
            with_unfolding_all refine TX_not rfl ?_
            with_unfolding_all refine TX_nil ?_
            with_unfolding_all refine thenQ_normal ?_
            with_unfolding_all refine TE_cond rfl (fun hc106 => ?_) (fun hc106 => ?_)
            · skip
              replace hF := ite_t hc106 hF
              with_unfolding_all refine TE_seq ?_
              obtain ⟨r107, h108, hF⟩ := bind_s hF
              with_unfolding_all refine TE_seqY ?_
              have hM109 := MB_none s99
              with_unfolding_all refine TX_move rfl ?_
              with_unfolding_all refine TX_cmp rfl rfl rfl ?_
              with_unfolding_all refine TX_move rfl ?_
              with_unfolding_all refine TX_guard_t rfl rfl (fun hc110 => ?_) (fun hc110 => ?_)
              · skip
                replace h108 := and_t hc110 h108
                with_unfolding_all refine TX_move rfl ?_
                with_unfolding_all refine TX_guard_yes rfl rfl hc110 ?_
                with_unfolding_all refine TY_len rfl rfl rfl rfl h40 rfl ?_
                with_unfolding_all refine TX_guard_yes rfl rfl hc110 ?_
                with_unfolding_all refine TX_cmp rfl rfl rfl ?_
                with_unfolding_all refine TX_pick_t rfl hc110 rfl ?_
                obtain rfl := some_s h108
                with_unfolding_all refine TX_assign rfl ?_
                with_unfolding_all refine TX_nil ?_
                with_unfolding_all refine thenQ_normal ?_
                with_unfolding_all refine TE_ret ?_
                with_unfolding_all refine thenQ_ret ?_
                obtain rfl := some_s hF
                exact done_any (vs := [.bool (((x28.1.length : Int) == 0))]) (.inr rfl) rfl (resR_tmp rfl resR_nil) ⟨rfl, hO100.ext⟩
              · skip
                replace h108 := and_f hc110 h108
                obtain rfl := some_s h108
                with_unfolding_all refine TX_guard_no_t rfl rfl hc110 ?_
                with_unfolding_all refine TX_guard_no_t rfl rfl hc110 ?_
                with_unfolding_all refine TX_pick_f rfl hc110 rfl ?_
                with_unfolding_all refine TX_assign rfl ?_
                with_unfolding_all refine TX_nil ?_
                with_unfolding_all refine thenQ_normal ?_
                with_unfolding_all refine TE_ret ?_
                with_unfolding_all refine thenQ_ret ?_
                obtain rfl := some_s hF
                exact done_any (vs := [.bool (false)]) (.inr rfl) rfl (resR_tmp rfl resR_nil) ⟨rfl, hO100.ext⟩
            · skip
              replace hF := ite_f hc106 hF
              with_unfolding_all refine TE_skip ?_
              with_unfolding_all refine thenQ_normal ?_
              with_unfolding_all refine TE_seq ?_
              obtain ⟨r113, h114, hF⟩ := bind_s hF
              with_unfolding_all refine TE_seqY ?_
              have hM115 := MB_none s99
              with_unfolding_all refine TX_move rfl ?_
              with_unfolding_all refine TX_cmp rfl rfl rfl ?_
              with_unfolding_all refine TX_move rfl ?_
              with_unfolding_all refine TX_guard_t rfl rfl (fun hc116 => ?_) (fun hc116 => ?_)
              · skip
                replace h114 := ite_t hc116 h114
                obtain ⟨x111, h112, h114⟩ := bind_s h114
                with_unfolding_all refine TX_move rfl ?_
                with_unfolding_all refine TX_guard_yes rfl rfl hc116 ?_
                with_unfolding_all refine TX_move rfl ?_
                with_unfolding_all refine TX_guard_yes rfl rfl hc116 ?_
                have hc117 : CallE Try.prog 16 [v38, v101] s99 _ := law12_Same_ok h112 h40 h103
                with_unfolding_all refine TY_call hM115 rfl en16 hc117 ?_
                intro v118 s122 hv119 hX120 hM121
                have hO123 := hO100.ext_call hX120
                obtain rfl := hv119
                with_unfolding_all refine TX_pick_t rfl hc116 rfl ?_
                obtain rfl := some_s h114
                with_unfolding_all refine TX_assign rfl ?_
                with_unfolding_all refine TX_nil ?_
                with_unfolding_all refine thenQ_normal ?_
                with_unfolding_all refine TE_ret ?_
                obtain rfl := some_s hF
                exact done_any (vs := [.bool (x111)]) (.inr rfl) rfl (resR_tmp rfl resR_nil) ⟨rfl, hO123.ext⟩
              · skip
                replace h114 := ite_f hc116 h114
                obtain rfl := some_s h114
                with_unfolding_all refine TX_guard_no_t rfl rfl hc116 ?_
                with_unfolding_all refine TX_guard_no_t rfl rfl hc116 ?_
                with_unfolding_all refine TX_pick_f rfl hc116 rfl ?_
                with_unfolding_all refine TX_assign rfl ?_
                with_unfolding_all refine TX_nil ?_
                with_unfolding_all refine thenQ_normal ?_
                with_unfolding_all refine TE_ret ?_
                obtain rfl := some_s hF
                exact done_any (vs := [.bool (false)]) (.inr rfl) rfl (resR_tmp rfl resR_nil) ⟨rfl, hO100.ext⟩
      · skip
        replace hF := ite_f hc54 hF
        with_unfolding_all refine TE_skip ?_
        with_unfolding_all refine thenQ_normal ?_
        with_unfolding_all refine TE_seq ?_
        obtain ⟨r126, h127, hF⟩ := bind_s hF
        with_unfolding_all refine TE_seqY ?_
        have hM128 := MB_none s51
        with_unfolding_all refine TX_move rfl ?_
        with_unfolding_all refine TX_cmp rfl rfl rfl ?_
        with_unfolding_all refine TX_move rfl ?_
        with_unfolding_all refine TX_guard_t rfl rfl (fun hc129 => ?_) (fun hc129 => ?_)
        · skip
          replace h127 := ite_t hc129 h127
          obtain ⟨x124, h125, h127⟩ := bind_s h127
          with_unfolding_all refine TX_move rfl ?_
          with_unfolding_all refine TX_guard_yes rfl rfl hc129 ?_
          with_unfolding_all refine TX_move rfl ?_
          with_unfolding_all refine TX_guard_yes rfl rfl hc129 ?_
          have hc130 : CallE Try.prog 16 [v38, v47] s51 _ := law12_Same_ok h125 h40 hv48
          with_unfolding_all refine TY_call hM128 rfl en16 hc130 ?_
          intro v131 s135 hv132 hX133 hM134
          have hO136 := hO52.ext_call hX133
          obtain rfl := hv132
          with_unfolding_all refine TX_pick_t rfl hc129 rfl ?_
          obtain rfl := some_s h127
          with_unfolding_all refine TX_assign rfl ?_
          with_unfolding_all refine TX_nil ?_
          with_unfolding_all refine thenQ_normal ?_
          with_unfolding_all refine TE_ret ?_
          obtain rfl := some_s hF
          exact done_any (vs := [.bool (x124)]) (.inr rfl) rfl (resR_tmp rfl resR_nil) ⟨rfl, hO136.ext⟩
        · skip
          replace h127 := ite_f hc129 h127
          obtain rfl := some_s h127
          with_unfolding_all refine TX_guard_no_t rfl rfl hc129 ?_
          with_unfolding_all refine TX_guard_no_t rfl rfl hc129 ?_
          with_unfolding_all refine TX_pick_f rfl hc129 rfl ?_
          with_unfolding_all refine TX_assign rfl ?_
          with_unfolding_all refine TX_nil ?_
          with_unfolding_all refine thenQ_normal ?_
          with_unfolding_all refine TE_ret ?_
          obtain rfl := some_s hF
          exact done_any (vs := [.bool (false)]) (.inr rfl) rfl (resR_tmp rfl resR_nil) ⟨rfl, hO52.ext⟩
theorem law12_MatchCounts_ok {x0_ : Int} {x1_ : Int} {x2_ : Int} {y : Bool} (hF : F.law12_MatchCounts x0_ x1_ x2_ = some y) {v0_ : AV} {v1_ : AV} {v2_ : AV} {σ : Mem} (h0_ : (eI .i64).rel v0_ x0_) (h1_ : (eI .i64).rel v1_ x1_) (h2_ : (eI .i64).rel v2_ x2_)  :
    CallE Try.prog 8 [v0_, v1_, v2_] σ (fun v σ' => eB.rel v y ∧ Ext σ σ') := by
  unfold F.law12_MatchCounts at hF
  obtain rfl := h0_
  obtain rfl := h1_
  obtain rfl := h2_
  refine CallE_of Try.func8 rfl Try.ntmps8 (by simp) ?_
  have hO0 := Own.start σ
  with_unfolding_all refine TE_seq ?_
  with_unfolding_all refine TE_seqY ?_
  have hM1 := MB_none σ
  with_unfolding_all refine TX_assign rfl ?_
  with_unfolding_all refine TX_nil ?_
  with_unfolding_all refine thenQ_normal ?_
  with_unfolding_all refine TE_seq ?_
  with_unfolding_all refine TE_seq ?_
  obtain ⟨x2, h3, hF⟩ := bind_s hF
  with_unfolding_all refine TE_seqY ?_
  have hM4 := MB_none σ
  have hc5 : CallE Try.prog 14 [] σ _ := law12_head_ok h3 
  with_unfolding_all refine TY_call hM4 rfl en14 hc5 ?_
  intro v6 s10 hv7 hX8 hM9
  have hO11 := hO0.ext_call hX8
  obtain rfl := hv7
  with_unfolding_all refine TX_not rfl ?_
  with_unfolding_all refine TX_nil ?_
  with_unfolding_all refine thenQ_normal ?_
  with_unfolding_all refine TE_cond rfl (fun hc12 => ?_) (fun hc12 => ?_)
  · skip
    replace hF := ite_t hc12 hF
    with_unfolding_all refine TE_seq ?_
    with_unfolding_all refine TE_seqY ?_
    have hM13 := MB_none s10
    with_unfolding_all refine TX_assign rfl ?_
    with_unfolding_all refine TX_nil ?_
    with_unfolding_all refine thenQ_normal ?_
    with_unfolding_all refine TE_ret ?_
    with_unfolding_all refine thenQ_ret ?_
    obtain rfl := some_s hF
    exact done_any (vs := [.bool (false)]) (.inr rfl) rfl (resR_tmp rfl resR_nil) ⟨rfl, hO11.ext⟩
  · skip
    replace hF := ite_f hc12 hF
    with_unfolding_all refine TE_skip ?_
    with_unfolding_all refine thenQ_normal ?_
    with_unfolding_all refine TE_seq ?_
    with_unfolding_all refine TE_seqY ?_
    have hM14 := MB_none s10
    with_unfolding_all refine TX_move rfl ?_
    with_unfolding_all refine TX_bit rfl rfl rfl ?_
    with_unfolding_all refine TX_assign rfl ?_
    with_unfolding_all refine TX_nil ?_
    with_unfolding_all refine thenQ_normal ?_
    with_unfolding_all refine TE_seq ?_
    with_unfolding_all refine TE_seqY ?_
    have hM15 := MB_none s10
    with_unfolding_all refine TX_move rfl ?_
    with_unfolding_all refine TX_bit rfl rfl rfl ?_
    with_unfolding_all refine TX_assign rfl ?_
    with_unfolding_all refine TX_nil ?_
    with_unfolding_all refine thenQ_normal ?_
    with_unfolding_all refine TE_seq ?_
    with_unfolding_all refine TE_seqY ?_
    have hM16 := MB_none s10
    with_unfolding_all refine TX_move rfl ?_
    with_unfolding_all refine TX_move rfl ?_
    with_unfolding_all refine TX_bit rfl rfl rfl ?_
    with_unfolding_all refine TX_ari rfl rfl rfl ?_
    with_unfolding_all refine TX_assign rfl ?_
    with_unfolding_all refine TX_nil ?_
    with_unfolding_all refine thenQ_normal ?_
    with_unfolding_all refine TE_seq ?_
    with_unfolding_all refine TE_seqY ?_
    have hM17 := MB_none s10
    have h18 : All2 e_match_Span.rel ([] : List AV) ([] : (List match_Span)) := trivial
    with_unfolding_all refine TY_buildSlice rfl rfl rfl rfl rfl h18 rfl (by decide) (by with_unfolding_all exact Nat.le_of_ble_eq_true rfl) ?_
    have h19 : RS e_match_Span (.sl [] .full) ([] : (List match_Span)) := RS.of h18
    with_unfolding_all refine TX_assign rfl ?_
    with_unfolding_all refine TX_nil ?_
    with_unfolding_all refine thenQ_normal ?_
    with_unfolding_all refine TE_seq ?_
    with_unfolding_all refine TE_seq ?_
    with_unfolding_all refine TE_seqY ?_
    have hM20 := MB_none s10
    with_unfolding_all refine TX_assign rfl ?_
    with_unfolding_all refine TX_nil ?_
    with_unfolding_all refine thenQ_normal ?_
    with_unfolding_all refine TE_block ?_
    obtain ⟨p27, h33, hF⟩ := bind_s hF
    refine TE_iter (f := F.law12_MatchCounts_s1 x0_) (s0 := (([] : (List match_Span)), 0)) (a := p27) (fun (q21 : ((List match_Span) × Int)) z => ∃ (u23 : AV) (s25 : Mem), RS e_match_Span u23 q21.1 ∧ Own σ [] s25 [.buf u23] ∧ Le z ⟨fr 61 [(0, .int .i64 ((band .i64 x0_ 7))), (1, .int .i64 ((band .i64 x1_ 7))), (2, .int .i64 ((IntKind.wrap .i64 ((band .i64 x1_ 7) + (band .i64 x2_ 7))))), (7, u23), (8, .int .i64 (q21.2))], [], s25⟩) (fun (p27 : (List match_Span)) e z => (e = .exit 0 ∧ ∃ (u28 : AV) (s30 : Mem), RS e_match_Span u28 p27 ∧ Own σ [] s30 [.buf u28] ∧ Le z ⟨fr 61 [(0, .int .i64 ((band .i64 x0_ 7))), (1, .int .i64 ((band .i64 x1_ 7))), (2, .int .i64 ((IntKind.wrap .i64 ((band .i64 x1_ 7) + (band .i64 x2_ 7))))), (7, u28)], [], s30⟩)) h33 ?_ ?_ ?_
    · skip
      have hO34 : Own σ [] s10 [.buf (.sl [] .full)] := hO11.bufFull []
      exact ⟨(.sl [] .full), s10, h19, (hO34.sub 1 rfl), (Le_fr ⟨rfl, ⟨rfl, ⟨rfl, ⟨rfl, ⟨rfl, trivial⟩⟩⟩⟩⟩)⟩
    · skip
      clear hF
      rintro q21 zq21 r22 ⟨u23, s25, h24, hO26, hz35⟩ hF
      unfold F.law12_MatchCounts_s1 at hF
      refine TE_pre hz35 ?_
      with_unfolding_all refine TE_seq ?_
      with_unfolding_all refine TE_seq ?_
      with_unfolding_all refine TE_seqY ?_
      have hM36 := MB_none s25
      with_unfolding_all refine TX_move rfl ?_
      with_unfolding_all refine TX_move rfl ?_
      with_unfolding_all refine TX_cmp rfl rfl rfl ?_
      with_unfolding_all refine TX_nil ?_
      with_unfolding_all refine thenQ_normal ?_
      with_unfolding_all refine TE_cond rfl (fun hc37 => ?_) (fun hc37 => ?_)
      · skip
        replace hF := ite_t hc37 hF
        with_unfolding_all refine TE_skip ?_
        with_unfolding_all refine thenQ_normal ?_
        with_unfolding_all refine TE_seq ?_
        with_unfolding_all refine TE_block ?_
        obtain ⟨x38, h39, hF⟩ := bind_s hF
        with_unfolding_all refine TE_seqY ?_
        have hM40 := MB_none s25
        with_unfolding_all refine TX_move rfl ?_
        with_unfolding_all refine TX_move rfl ?_
        with_unfolding_all refine TX_move rfl ?_
        with_unfolding_all refine TY_build [.int .i64 (q21.2), .int .i64 (q21.2), .int .i64 (0), .int .i64 (0)] rfl rfl rfl (by with_unfolding_all exact Fill.cons rfl rfl rfl (by with_unfolding_all exact Nat.le_of_ble_eq_true rfl) (Fill.cons rfl rfl rfl (by with_unfolding_all exact Nat.le_of_ble_eq_true rfl) (Fill.nil _))) (by with_unfolding_all rfl) ?_
        have h41 : All2 e_match_Span.rel ([.agg [.int .i64 (q21.2), .int .i64 (q21.2), .int .i64 (0), .int .i64 (0)]] : List AV) ([(F.match_Span.mk q21.2 q21.2 0 0)] : (List match_Span)) := ⟨rfl, trivial⟩
        with_unfolding_all refine TY_buildSlice rfl rfl rfl rfl rfl h41 rfl (by decide) (by with_unfolding_all exact Nat.le_of_ble_eq_true rfl) ?_
        have h42 : RS e_match_Span (.sl [.agg [.int .i64 (q21.2), .int .i64 (q21.2), .int .i64 (0), .int .i64 (0)]] .full) ([(F.match_Span.mk q21.2 q21.2 0 0)] : (List match_Span)) := RS.of h41
        with_unfolding_all refine TY_append appT25_25 hO26 hM40 rfl rfl rfl rfl h24 rfl h42 h39 ?_
        rintro u43 s45 (h44 : RS e_match_Span u43 x38) (hO46 : Own σ [] s45 [.buf u43]) hM47
        with_unfolding_all refine TX_assign rfl ?_
        with_unfolding_all refine TX_nil ?_
        with_unfolding_all refine blockQ_normal ?_
        with_unfolding_all refine thenQ_normal ?_
        with_unfolding_all refine TE_seqY ?_
        have hM48 := MB_none s45
        with_unfolding_all refine TX_move rfl ?_
        with_unfolding_all refine TX_ari rfl rfl rfl ?_
        with_unfolding_all refine TX_assign rfl ?_
        with_unfolding_all refine TX_nil ?_
        obtain rfl := some_s hF
        exact iterQ_again ⟨u43, s45, h44, (hO46.sub 1 rfl), (Le_fr ⟨rfl, ⟨rfl, ⟨rfl, ⟨rfl, ⟨rfl, trivial⟩⟩⟩⟩⟩)⟩
      · skip
        replace hF := ite_f hc37 hF
        with_unfolding_all refine TE_exit ?_
        with_unfolding_all refine thenQ_exit ?_
        obtain rfl := some_s hF
        exact iterQ_exit (⟨rfl, u23, s25, h24, (hO26.sub 1 rfl), (Le_fr ⟨rfl, ⟨rfl, ⟨rfl, ⟨rfl, trivial⟩⟩⟩⟩)⟩)
    · skip
      rintro eq21 zq21 (⟨rfl, u28, s30, h29, hO31, hz49⟩)
      with_unfolding_all refine blockQ_out ?_
      with_unfolding_all refine thenQ_normal ?_
      refine TE_pre hz49 ?_
      with_unfolding_all refine TE_seq ?_
      obtain ⟨x50, h51, hF⟩ := bind_s hF
      obtain ⟨x52, h53, hF⟩ := bind_s hF
      with_unfolding_all refine TE_seqY ?_
      have hM54 := MB_none s30
      with_unfolding_all refine TX_move rfl ?_
      have hc55 : CallE Try.prog 26 [u28] s30 _ := match_Of_ok h51 h29
      with_unfolding_all refine TY_call hM54 rfl en26 hc55 ?_
      intro v56 s60 hv57 hX58 hM59
      have hO61 := hO31.ext_call hX58
      with_unfolding_all refine TX_move rfl ?_
      with_unfolding_all refine TX_move rfl ?_
      with_unfolding_all refine TY_build [.int .i64 ((band .i64 x1_ 7)), .int .i64 ((IntKind.wrap .i64 ((band .i64 x1_ 7) + (band .i64 x2_ 7))))] rfl rfl rfl (by with_unfolding_all exact Fill.cons rfl rfl rfl (by with_unfolding_all exact Nat.le_of_ble_eq_true rfl) (Fill.cons rfl rfl rfl (by with_unfolding_all exact Nat.le_of_ble_eq_true rfl) (Fill.nil _))) (by with_unfolding_all rfl) ?_
      have hc62 : CallE Try.prog 32 [v56, .agg [.int .i64 ((band .i64 x1_ 7)), .int .i64 ((IntKind.wrap .i64 ((band .i64 x1_ 7) + (band .i64 x2_ 7))))]] s60 _ := match_Times_ok h53 hv57 rfl
      with_unfolding_all refine TY_call hM59 rfl en32 hc62 ?_
      intro v63 s67 hv64 hX65 hM66
      have hO68 := hO61.ext_call hX65
      obtain ⟨v69, v70, rfl, h71, h72⟩ := hv64
      obtain rfl := h72
      with_unfolding_all refine TX_move rfl ?_
      with_unfolding_all refine TX_extract rfl rfl ?_
      with_unfolding_all refine TX_extract rfl rfl ?_
      with_unfolding_all refine TX_assign rfl ?_
      with_unfolding_all refine TX_assign rfl ?_
      with_unfolding_all refine TX_nil ?_
      with_unfolding_all refine thenQ_normal ?_
      with_unfolding_all refine TE_seq ?_
      obtain ⟨r79, h80, hF⟩ := bind_s hF
      with_unfolding_all refine TE_seqY ?_
      have hM81 := MB_none s67
      with_unfolding_all refine TX_move rfl ?_
      with_unfolding_all refine TX_cmp rfl rfl rfl ?_
      with_unfolding_all refine TX_move rfl ?_
      with_unfolding_all refine TX_guard_f rfl rfl (fun hc82 => ?_) (fun hc82 => ?_)
      · skip
        replace h80 := ite_t hc82 h80
        obtain rfl := some_s h80
        with_unfolding_all refine TX_guard_no_f rfl rfl hc82 ?_
        with_unfolding_all refine TX_guard_no_f rfl rfl hc82 ?_
        with_unfolding_all refine TX_guard_un rfl rfl ?_
        with_unfolding_all refine TX_guard_un rfl rfl ?_
        with_unfolding_all refine TX_guard_un rfl rfl ?_
        with_unfolding_all refine TX_guard_un rfl rfl ?_
        with_unfolding_all refine TX_guard_un rfl rfl ?_
        with_unfolding_all refine TX_guard_un rfl rfl ?_
        with_unfolding_all refine TX_guard_un rfl rfl ?_
        with_unfolding_all refine TX_guard_un rfl rfl ?_
        with_unfolding_all refine TX_guard_un rfl rfl ?_
        with_unfolding_all refine TX_guard_un rfl rfl ?_
        with_unfolding_all refine TX_guard_un rfl rfl ?_
        with_unfolding_all refine TX_guard_no_f rfl rfl hc82 ?_
        with_unfolding_all refine TX_pick_t rfl hc82 rfl ?_
        with_unfolding_all refine TX_assign rfl ?_
        with_unfolding_all refine TX_nil ?_
        with_unfolding_all refine thenQ_normal ?_
        with_unfolding_all refine TE_ret ?_
        obtain rfl := some_s hF
        exact done_any (vs := [.bool (true)]) (.inr rfl) rfl (resR_tmp rfl resR_nil) ⟨rfl, hO68.ext⟩
      · skip
        replace h80 := ite_f hc82 h80
        obtain ⟨r77, h78, h80⟩ := bind_s h80
        with_unfolding_all refine TX_move rfl ?_
        with_unfolding_all refine TX_guard_yes rfl rfl hc82 ?_
        with_unfolding_all refine TX_cmp rfl rfl rfl ?_
        with_unfolding_all refine TX_guard_yes rfl rfl hc82 ?_
        with_unfolding_all refine TX_move rfl ?_
        with_unfolding_all refine TX_guard_t rfl rfl (fun hc83 => ?_) (fun hc83 => ?_)
        · skip
          replace h78 := ite_t hc83 h78
          obtain ⟨x73, h74, h78⟩ := bind_s h78
          obtain ⟨r75, h76, h78⟩ := bind_s h78
          with_unfolding_all refine TX_move rfl ?_
          with_unfolding_all refine TX_guard_yes rfl rfl hc83 ?_
          have hc84 : CallE Try.prog 24 [v69] s67 _ := match_Holds_ok h74 h71
          with_unfolding_all refine TY_call hM81 rfl en24 hc84 ?_
          intro v85 s89 hv86 hX87 hM88
          have hO90 := hO68.ext_call hX87
          obtain rfl := hv86
          with_unfolding_all refine TX_guard_yes rfl rfl hc83 ?_
          with_unfolding_all refine TX_move rfl ?_
          with_unfolding_all refine TX_guard_yes rfl rfl hc83 ?_
          with_unfolding_all refine TX_move rfl ?_
          with_unfolding_all refine TX_guard_yes rfl rfl hc83 ?_
          with_unfolding_all refine TX_cmp rfl rfl rfl ?_
          with_unfolding_all refine TX_guard_yes rfl rfl hc83 ?_
          with_unfolding_all refine TX_move rfl ?_
          with_unfolding_all refine TX_guard_t rfl rfl (fun hc91 => ?_) (fun hc91 => ?_)
          · skip
            replace h76 := and_t hc91 h76
            with_unfolding_all refine TX_move rfl ?_
            with_unfolding_all refine TX_guard_yes rfl rfl hc91 ?_
            with_unfolding_all refine TX_move rfl ?_
            with_unfolding_all refine TX_guard_yes rfl rfl hc91 ?_
            with_unfolding_all refine TX_cmp rfl rfl rfl ?_
            with_unfolding_all refine TX_guard_yes rfl rfl hc83 ?_
            with_unfolding_all refine TX_pick_t rfl hc91 rfl ?_
            obtain rfl := some_s h76
            with_unfolding_all refine TX_guard_yes rfl rfl hc83 ?_
            with_unfolding_all refine TX_beq rfl rfl rfl ?_
            with_unfolding_all refine TX_guard_yes rfl rfl hc82 ?_
            with_unfolding_all refine TX_pick_t rfl hc83 rfl ?_
            obtain rfl := some_s h78
            with_unfolding_all refine TX_pick_f rfl hc82 rfl ?_
            obtain rfl := some_s h80
            with_unfolding_all refine TX_assign rfl ?_
            with_unfolding_all refine TX_nil ?_
            with_unfolding_all refine thenQ_normal ?_
            with_unfolding_all refine TE_ret ?_
            obtain rfl := some_s hF
            exact done_any (vs := [.bool ((x73 == (decide ((band .i64 x0_ 7) ≤ (IntKind.wrap .i64 ((band .i64 x1_ 7) + (band .i64 x2_ 7)))))))]) (.inr rfl) rfl (resR_tmp rfl resR_nil) ⟨rfl, hO90.ext⟩
          · skip
            replace h76 := and_f hc91 h76
            obtain rfl := some_s h76
            with_unfolding_all refine TX_guard_no_t rfl rfl hc91 ?_
            with_unfolding_all refine TX_guard_no_t rfl rfl hc91 ?_
            with_unfolding_all refine TX_guard_yes rfl rfl hc83 ?_
            with_unfolding_all refine TX_pick_f rfl hc91 rfl ?_
            with_unfolding_all refine TX_guard_yes rfl rfl hc83 ?_
            with_unfolding_all refine TX_beq rfl rfl rfl ?_
            with_unfolding_all refine TX_guard_yes rfl rfl hc82 ?_
            with_unfolding_all refine TX_pick_t rfl hc83 rfl ?_
            obtain rfl := some_s h78
            with_unfolding_all refine TX_pick_f rfl hc82 rfl ?_
            obtain rfl := some_s h80
            with_unfolding_all refine TX_assign rfl ?_
            with_unfolding_all refine TX_nil ?_
            with_unfolding_all refine thenQ_normal ?_
            with_unfolding_all refine TE_ret ?_
            obtain rfl := some_s hF
            exact done_any (vs := [.bool ((x73 == false))]) (.inr rfl) rfl (resR_tmp rfl resR_nil) ⟨rfl, hO90.ext⟩
        · skip
          replace h78 := ite_f hc83 h78
          obtain rfl := some_s h78
          with_unfolding_all refine TX_guard_no_t rfl rfl hc83 ?_
          with_unfolding_all refine TX_guard_no_t rfl rfl hc83 ?_
          with_unfolding_all refine TX_guard_no_t rfl rfl hc83 ?_
          with_unfolding_all refine TX_guard_no_t rfl rfl hc83 ?_
          with_unfolding_all refine TX_guard_no_t rfl rfl hc83 ?_
          with_unfolding_all refine TX_guard_un rfl rfl ?_
          with_unfolding_all refine TX_guard_un rfl rfl ?_
          with_unfolding_all refine TX_guard_un rfl rfl ?_
          with_unfolding_all refine TX_guard_no_t rfl rfl hc83 ?_
          with_unfolding_all refine TX_guard_no_t rfl rfl hc83 ?_
          with_unfolding_all refine TX_guard_yes rfl rfl hc82 ?_
          with_unfolding_all refine TX_pick_f rfl hc83 rfl ?_
          with_unfolding_all refine TX_pick_f rfl hc82 rfl ?_
          obtain rfl := some_s h80
          with_unfolding_all refine TX_assign rfl ?_
          with_unfolding_all refine TX_nil ?_
          with_unfolding_all refine thenQ_normal ?_
          with_unfolding_all refine TE_ret ?_
          obtain rfl := some_s hF
          exact done_any (vs := [.bool (false)]) (.inr rfl) rfl (resR_tmp rfl resR_nil) ⟨rfl, hO68.ext⟩
end Go.Proofs.Ytihbdelgoapeoaa.K
