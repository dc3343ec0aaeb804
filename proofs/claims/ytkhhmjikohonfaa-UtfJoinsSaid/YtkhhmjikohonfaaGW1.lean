/- Walks. Printed. -/
import Derived.Test.YtkhhmjikohonfaaGE
namespace Go.Proofs.Ytkhhmjikohonfaa.K
open Go Go.RowKit F
set_option maxRecDepth 100000
set_option maxHeartbeats 4000000
set_option linter.unusedVariables false
set_option linter.unusedSimpArgs false
theorem utf_Low_ok {x0_ : Int} {y : Int} (hF : F.utf_Low x0_ = some y) {v0_ : AV} {σ : Mem} (h0_ : (eI .i32).rel v0_ x0_)  :
    CallE Try.prog 12 [v0_] σ (fun v σ' => (eI .i32).rel v y ∧ Ext σ σ') := by
  unfold F.utf_Low at hF
  obtain rfl := h0_
  refine CallE_of Try.func12 rfl Try.ntmps12 (by simp) ?_
  have hO0 := Own.start σ
  with_unfolding_all refine TE_seq ?_
  with_unfolding_all refine TE_seqY ?_
  have hM1 := MB_none σ
  with_unfolding_all refine TX_assign rfl ?_
  with_unfolding_all refine TX_nil ?_
  with_unfolding_all refine thenQ_normal ?_
  with_unfolding_all refine TE_seq ?_
  with_unfolding_all refine TE_block ?_
  with_unfolding_all refine TE_seq ?_
  with_unfolding_all refine TE_seq ?_
  obtain ⟨r2, h3, hF⟩ := bind_s hF
  refine TE_cutQ (fun z => ∃ (s5 : Mem), Own σ [] s5 [] ∧ Le z ⟨fr 80 [(0, .int .i32 (x0_)), (3, .bool (r2))], [], s5⟩) ?_ ?_
  · skip
    with_unfolding_all refine TE_seqY ?_
    have hM8 := MB_none σ
    with_unfolding_all refine TX_move rfl ?_
    with_unfolding_all refine TX_cmp rfl rfl rfl ?_
    with_unfolding_all refine TX_move rfl ?_
    with_unfolding_all refine TX_guard_t rfl rfl (fun hc9 => ?_) (fun hc9 => ?_)
    · skip
      replace h3 := and_t hc9 h3
      with_unfolding_all refine TX_move rfl ?_
      with_unfolding_all refine TX_guard_yes rfl rfl hc9 ?_
      with_unfolding_all refine TX_cmp rfl rfl rfl ?_
      with_unfolding_all refine TX_pick_t rfl hc9 rfl ?_
      obtain rfl := some_s h3
      with_unfolding_all refine TX_assign rfl ?_
      with_unfolding_all refine TX_nil ?_
      exact joinQ_normal ⟨σ, (hO0.sub 0 rfl), (Le_fr ⟨rfl, ⟨rfl, trivial⟩⟩)⟩
    · skip
      replace h3 := and_f hc9 h3
      obtain rfl := some_s h3
      with_unfolding_all refine TX_guard_no_t rfl rfl hc9 ?_
      with_unfolding_all refine TX_pick_f rfl hc9 rfl ?_
      with_unfolding_all refine TX_assign rfl ?_
      with_unfolding_all refine TX_nil ?_
      exact joinQ_normal ⟨σ, (hO0.sub 0 rfl), (Le_fr ⟨rfl, ⟨rfl, trivial⟩⟩)⟩
  · skip
    rintro zj4 ⟨s5, hO6, hz7⟩
    with_unfolding_all refine thenQ_normal ?_
    refine TE_pre hz7 ?_
    obtain ⟨j10, h14, hF⟩ := bind_s hF
    refine TE_cutQ (fun z => ∃ (s11 : Mem), Own σ [] s11 [] ∧ Le z ⟨fr 80 [(0, .int .i32 (x0_)), (3, .bool (j10))], [], s11⟩) ?_ ?_
    · skip
      replace hF := h14
      with_unfolding_all refine TE_cond rfl (fun hc15 => ?_) (fun hc15 => ?_)
      · skip
        replace hF := ite_t hc15 hF
        with_unfolding_all refine TE_skip ?_
        obtain rfl := some_s hF
        exact joinQ_normal ⟨s5, (hO6.sub 0 rfl), (Le_fr ⟨rfl, ⟨rfl, trivial⟩⟩)⟩
      · skip
        replace hF := ite_f hc15 hF
        obtain ⟨r16, h17, hF⟩ := bind_s hF
        obtain ⟨r18, h19, hF⟩ := bind_s hF
        with_unfolding_all refine TE_seqY ?_
        have hM20 := MB_none s5
        with_unfolding_all refine TX_move rfl ?_
        with_unfolding_all refine TX_cmp rfl rfl rfl ?_
        with_unfolding_all refine TX_move rfl ?_
        with_unfolding_all refine TX_guard_t rfl rfl (fun hc21 => ?_) (fun hc21 => ?_)
        · skip
          replace h17 := and_t hc21 h17
          with_unfolding_all refine TX_move rfl ?_
          with_unfolding_all refine TX_guard_yes rfl rfl hc21 ?_
          with_unfolding_all refine TX_cmp rfl rfl rfl ?_
          with_unfolding_all refine TX_pick_t rfl hc21 rfl ?_
          obtain rfl := some_s h17
          with_unfolding_all refine TX_move rfl ?_
          with_unfolding_all refine TX_guard_t rfl rfl (fun hc22 => ?_) (fun hc22 => ?_)
          · skip
            replace h19 := and_t hc22 h19
            with_unfolding_all refine TX_move rfl ?_
            with_unfolding_all refine TX_guard_yes rfl rfl hc22 ?_
            with_unfolding_all refine TX_cmp rfl rfl rfl ?_
            with_unfolding_all refine TX_pick_t rfl hc22 rfl ?_
            obtain rfl := some_s h19
            with_unfolding_all refine TX_assign rfl ?_
            with_unfolding_all refine TX_nil ?_
            obtain rfl := some_s hF
            exact joinQ_normal ⟨s5, (hO6.sub 0 rfl), (Le_fr ⟨rfl, ⟨rfl, trivial⟩⟩)⟩
          · skip
            replace h19 := and_f hc22 h19
            obtain rfl := some_s h19
            with_unfolding_all refine TX_guard_no_t rfl rfl hc22 ?_
            with_unfolding_all refine TX_pick_f rfl hc22 rfl ?_
            with_unfolding_all refine TX_assign rfl ?_
            with_unfolding_all refine TX_nil ?_
            obtain rfl := some_s hF
            exact joinQ_normal ⟨s5, (hO6.sub 0 rfl), (Le_fr ⟨rfl, ⟨rfl, trivial⟩⟩)⟩
        · skip
          replace h17 := and_f hc21 h17
          obtain rfl := some_s h17
          with_unfolding_all refine TX_guard_no_t rfl rfl hc21 ?_
          with_unfolding_all refine TX_pick_f rfl hc21 rfl ?_
          with_unfolding_all refine TX_move rfl ?_
          replace h19 := and_f rfl h19
          obtain rfl := some_s h19
          with_unfolding_all refine TX_guard_no_t rfl rfl rfl ?_
          with_unfolding_all refine TX_guard_no_t rfl rfl rfl ?_
          with_unfolding_all refine TX_pick_f rfl rfl rfl ?_
          with_unfolding_all refine TX_assign rfl ?_
          with_unfolding_all refine TX_nil ?_
          obtain rfl := some_s hF
          exact joinQ_normal ⟨s5, (hO6.sub 0 rfl), (Le_fr ⟨rfl, ⟨rfl, trivial⟩⟩)⟩
    · skip
      rintro zj10 ⟨s11, hO12, hz13⟩
      with_unfolding_all refine thenQ_normal ?_
      refine TE_pre hz13 ?_
      with_unfolding_all refine TE_cond rfl (fun hc23 => ?_) (fun hc23 => ?_)
      · skip
        replace hF := ite_t hc23 hF
        with_unfolding_all refine TE_seq ?_
        with_unfolding_all refine TE_seqY ?_
        have hM24 := MB_none s11
        with_unfolding_all refine TX_move rfl ?_
        with_unfolding_all refine TX_ari rfl rfl rfl ?_
        with_unfolding_all refine TX_assign rfl ?_
        with_unfolding_all refine TX_nil ?_
        with_unfolding_all refine thenQ_normal ?_
        with_unfolding_all refine TE_ret ?_
        with_unfolding_all refine blockQ_ret ?_
        with_unfolding_all refine thenQ_ret ?_
        obtain rfl := some_s hF
        exact done_any (vs := [.int .i32 ((IntKind.wrap .i32 (x0_ + 32)))]) (.inr rfl) rfl (resR_tmp rfl resR_nil) ⟨rfl, hO12.ext⟩
      · skip
        replace hF := ite_f hc23 hF
        with_unfolding_all refine TE_seq ?_
        with_unfolding_all refine TE_seq ?_
        obtain ⟨r25, h26, hF⟩ := bind_s hF
        obtain ⟨r27, h28, hF⟩ := bind_s hF
        obtain ⟨r29, h30, hF⟩ := bind_s hF
        refine TE_cutQ (fun z => ∃ (s32 : Mem), Own σ [] s32 [] ∧ Le z ⟨fr 80 [(0, .int .i32 (x0_)), (22, .bool (r29))], [], s32⟩) ?_ ?_
        · skip
          with_unfolding_all refine TE_seqY ?_
          have hM35 := MB_none s11
          with_unfolding_all refine TX_move rfl ?_
          with_unfolding_all refine TX_cmp rfl rfl rfl ?_
          with_unfolding_all refine TX_move rfl ?_
          with_unfolding_all refine TX_guard_t rfl rfl (fun hc36 => ?_) (fun hc36 => ?_)
          · skip
            replace h26 := and_t hc36 h26
            with_unfolding_all refine TX_move rfl ?_
            with_unfolding_all refine TX_guard_yes rfl rfl hc36 ?_
            with_unfolding_all refine TX_cmp rfl rfl rfl ?_
            with_unfolding_all refine TX_pick_t rfl hc36 rfl ?_
            obtain rfl := some_s h26
            with_unfolding_all refine TX_move rfl ?_
            with_unfolding_all refine TX_guard_t rfl rfl (fun hc37 => ?_) (fun hc37 => ?_)
            · skip
              replace h28 := and_t hc37 h28
              with_unfolding_all refine TX_move rfl ?_
              with_unfolding_all refine TX_guard_yes rfl rfl hc37 ?_
              with_unfolding_all refine TX_cmp rfl rfl rfl ?_
              with_unfolding_all refine TX_pick_t rfl hc37 rfl ?_
              obtain rfl := some_s h28
              with_unfolding_all refine TX_move rfl ?_
              with_unfolding_all refine TX_guard_t rfl rfl (fun hc38 => ?_) (fun hc38 => ?_)
              · skip
                replace h30 := and_t hc38 h30
                with_unfolding_all refine TX_move rfl ?_
                with_unfolding_all refine TX_guard_yes rfl rfl hc38 ?_
                with_unfolding_all refine TX_bit rfl rfl rfl ?_
                with_unfolding_all refine TX_guard_yes rfl rfl hc38 ?_
                with_unfolding_all refine TX_cmp rfl rfl rfl ?_
                with_unfolding_all refine TX_pick_t rfl hc38 rfl ?_
                obtain rfl := some_s h30
                with_unfolding_all refine TX_assign rfl ?_
                with_unfolding_all refine TX_nil ?_
                exact joinQ_normal ⟨s11, (hO12.sub 0 rfl), (Le_fr ⟨rfl, ⟨rfl, trivial⟩⟩)⟩
              · skip
                replace h30 := and_f hc38 h30
                obtain rfl := some_s h30
                with_unfolding_all refine TX_guard_no_t rfl rfl hc38 ?_
                with_unfolding_all refine TX_guard_no_t rfl rfl hc38 ?_
                with_unfolding_all refine TX_pick_f rfl hc38 rfl ?_
                with_unfolding_all refine TX_assign rfl ?_
                with_unfolding_all refine TX_nil ?_
                exact joinQ_normal ⟨s11, (hO12.sub 0 rfl), (Le_fr ⟨rfl, ⟨rfl, trivial⟩⟩)⟩
            · skip
              replace h28 := and_f hc37 h28
              obtain rfl := some_s h28
              with_unfolding_all refine TX_guard_no_t rfl rfl hc37 ?_
              with_unfolding_all refine TX_pick_f rfl hc37 rfl ?_
              with_unfolding_all refine TX_move rfl ?_
              replace h30 := and_f rfl h30
              obtain rfl := some_s h30
              with_unfolding_all refine TX_guard_no_t rfl rfl rfl ?_
              with_unfolding_all refine TX_guard_no_t rfl rfl rfl ?_
              with_unfolding_all refine TX_guard_no_t rfl rfl rfl ?_
              with_unfolding_all refine TX_pick_f rfl rfl rfl ?_
              with_unfolding_all refine TX_assign rfl ?_
              with_unfolding_all refine TX_nil ?_
              exact joinQ_normal ⟨s11, (hO12.sub 0 rfl), (Le_fr ⟨rfl, ⟨rfl, trivial⟩⟩)⟩
          · skip
            replace h26 := and_f hc36 h26
            obtain rfl := some_s h26
            with_unfolding_all refine TX_guard_no_t rfl rfl hc36 ?_
            with_unfolding_all refine TX_pick_f rfl hc36 rfl ?_
            with_unfolding_all refine TX_move rfl ?_
            replace h28 := and_f rfl h28
            obtain rfl := some_s h28
            with_unfolding_all refine TX_guard_no_t rfl rfl rfl ?_
            with_unfolding_all refine TX_guard_no_t rfl rfl rfl ?_
            with_unfolding_all refine TX_pick_f rfl rfl rfl ?_
            with_unfolding_all refine TX_move rfl ?_
            replace h30 := and_f rfl h30
            obtain rfl := some_s h30
            with_unfolding_all refine TX_guard_no_t rfl rfl rfl ?_
            with_unfolding_all refine TX_guard_no_t rfl rfl rfl ?_
            with_unfolding_all refine TX_guard_no_t rfl rfl rfl ?_
            with_unfolding_all refine TX_pick_f rfl rfl rfl ?_
            with_unfolding_all refine TX_assign rfl ?_
            with_unfolding_all refine TX_nil ?_
            exact joinQ_normal ⟨s11, (hO12.sub 0 rfl), (Le_fr ⟨rfl, ⟨rfl, trivial⟩⟩)⟩
        · skip
          rintro zj31 ⟨s32, hO33, hz34⟩
          with_unfolding_all refine thenQ_normal ?_
          refine TE_pre hz34 ?_
          obtain ⟨j39, h43, hF⟩ := bind_s hF
          refine TE_cutQ (fun z => ∃ (s40 : Mem), Own σ [] s40 [] ∧ Le z ⟨fr 80 [(0, .int .i32 (x0_)), (22, .bool (j39))], [], s40⟩) ?_ ?_
          · skip
            replace hF := h43
            with_unfolding_all refine TE_cond rfl (fun hc44 => ?_) (fun hc44 => ?_)
            · skip
              replace hF := ite_t hc44 hF
              with_unfolding_all refine TE_skip ?_
              obtain rfl := some_s hF
              exact joinQ_normal ⟨s32, (hO33.sub 0 rfl), (Le_fr ⟨rfl, ⟨rfl, trivial⟩⟩)⟩
            · skip
              replace hF := ite_f hc44 hF
              obtain ⟨r45, h46, hF⟩ := bind_s hF
              obtain ⟨r47, h48, hF⟩ := bind_s hF
              with_unfolding_all refine TE_seqY ?_
              have hM49 := MB_none s32
              with_unfolding_all refine TX_move rfl ?_
              with_unfolding_all refine TX_cmp rfl rfl rfl ?_
              with_unfolding_all refine TX_move rfl ?_
              with_unfolding_all refine TX_guard_t rfl rfl (fun hc50 => ?_) (fun hc50 => ?_)
              · skip
                replace h46 := and_t hc50 h46
                with_unfolding_all refine TX_move rfl ?_
                with_unfolding_all refine TX_guard_yes rfl rfl hc50 ?_
                with_unfolding_all refine TX_cmp rfl rfl rfl ?_
                with_unfolding_all refine TX_pick_t rfl hc50 rfl ?_
                obtain rfl := some_s h46
                with_unfolding_all refine TX_move rfl ?_
                with_unfolding_all refine TX_guard_t rfl rfl (fun hc51 => ?_) (fun hc51 => ?_)
                · skip
                  replace h48 := and_t hc51 h48
                  with_unfolding_all refine TX_move rfl ?_
                  with_unfolding_all refine TX_guard_yes rfl rfl hc51 ?_
                  with_unfolding_all refine TX_bit rfl rfl rfl ?_
                  with_unfolding_all refine TX_guard_yes rfl rfl hc51 ?_
                  with_unfolding_all refine TX_cmp rfl rfl rfl ?_
                  with_unfolding_all refine TX_pick_t rfl hc51 rfl ?_
                  obtain rfl := some_s h48
                  with_unfolding_all refine TX_assign rfl ?_
                  with_unfolding_all refine TX_nil ?_
                  obtain rfl := some_s hF
                  exact joinQ_normal ⟨s32, (hO33.sub 0 rfl), (Le_fr ⟨rfl, ⟨rfl, trivial⟩⟩)⟩
                · skip
                  replace h48 := and_f hc51 h48
                  obtain rfl := some_s h48
                  with_unfolding_all refine TX_guard_no_t rfl rfl hc51 ?_
                  with_unfolding_all refine TX_guard_no_t rfl rfl hc51 ?_
                  with_unfolding_all refine TX_pick_f rfl hc51 rfl ?_
                  with_unfolding_all refine TX_assign rfl ?_
                  with_unfolding_all refine TX_nil ?_
                  obtain rfl := some_s hF
                  exact joinQ_normal ⟨s32, (hO33.sub 0 rfl), (Le_fr ⟨rfl, ⟨rfl, trivial⟩⟩)⟩
              · skip
                replace h46 := and_f hc50 h46
                obtain rfl := some_s h46
                with_unfolding_all refine TX_guard_no_t rfl rfl hc50 ?_
                with_unfolding_all refine TX_pick_f rfl hc50 rfl ?_
                with_unfolding_all refine TX_move rfl ?_
                replace h48 := and_f rfl h48
                obtain rfl := some_s h48
                with_unfolding_all refine TX_guard_no_t rfl rfl rfl ?_
                with_unfolding_all refine TX_guard_no_t rfl rfl rfl ?_
                with_unfolding_all refine TX_guard_no_t rfl rfl rfl ?_
                with_unfolding_all refine TX_pick_f rfl rfl rfl ?_
                with_unfolding_all refine TX_assign rfl ?_
                with_unfolding_all refine TX_nil ?_
                obtain rfl := some_s hF
                exact joinQ_normal ⟨s32, (hO33.sub 0 rfl), (Le_fr ⟨rfl, ⟨rfl, trivial⟩⟩)⟩
          · skip
            rintro zj39 ⟨s40, hO41, hz42⟩
            with_unfolding_all refine thenQ_normal ?_
            refine TE_pre hz42 ?_
            with_unfolding_all refine TE_cond rfl (fun hc52 => ?_) (fun hc52 => ?_)
            · skip
              replace hF := ite_t hc52 hF
              with_unfolding_all refine TE_seq ?_
              with_unfolding_all refine TE_seqY ?_
              have hM53 := MB_none s40
              with_unfolding_all refine TX_move rfl ?_
              with_unfolding_all refine TX_ari rfl rfl rfl ?_
              with_unfolding_all refine TX_assign rfl ?_
              with_unfolding_all refine TX_nil ?_
              with_unfolding_all refine thenQ_normal ?_
              with_unfolding_all refine TE_ret ?_
              with_unfolding_all refine blockQ_ret ?_
              with_unfolding_all refine thenQ_ret ?_
              obtain rfl := some_s hF
              exact done_any (vs := [.int .i32 ((IntKind.wrap .i32 (x0_ + 1)))]) (.inr rfl) rfl (resR_tmp rfl resR_nil) ⟨rfl, hO41.ext⟩
            · skip
              replace hF := ite_f hc52 hF
              with_unfolding_all refine TE_seq ?_
              with_unfolding_all refine TE_seq ?_
              obtain ⟨r54, h55, hF⟩ := bind_s hF
              obtain ⟨r56, h57, hF⟩ := bind_s hF
              refine TE_cutQ (fun z => ∃ (s59 : Mem), Own σ [] s59 [] ∧ Le z ⟨fr 80 [(0, .int .i32 (x0_)), (51, .bool (r56))], [], s59⟩) ?_ ?_
              · skip
                with_unfolding_all refine TE_seqY ?_
                have hM62 := MB_none s40
                with_unfolding_all refine TX_move rfl ?_
                with_unfolding_all refine TX_cmp rfl rfl rfl ?_
                with_unfolding_all refine TX_move rfl ?_
                with_unfolding_all refine TX_guard_t rfl rfl (fun hc63 => ?_) (fun hc63 => ?_)
                · skip
                  replace h55 := and_t hc63 h55
                  with_unfolding_all refine TX_move rfl ?_
                  with_unfolding_all refine TX_guard_yes rfl rfl hc63 ?_
                  with_unfolding_all refine TX_cmp rfl rfl rfl ?_
                  with_unfolding_all refine TX_pick_t rfl hc63 rfl ?_
                  obtain rfl := some_s h55
                  with_unfolding_all refine TX_move rfl ?_
                  with_unfolding_all refine TX_guard_t rfl rfl (fun hc64 => ?_) (fun hc64 => ?_)
                  · skip
                    replace h57 := and_t hc64 h57
                    with_unfolding_all refine TX_move rfl ?_
                    with_unfolding_all refine TX_guard_yes rfl rfl hc64 ?_
                    with_unfolding_all refine TX_bit rfl rfl rfl ?_
                    with_unfolding_all refine TX_guard_yes rfl rfl hc64 ?_
                    with_unfolding_all refine TX_cmp rfl rfl rfl ?_
                    with_unfolding_all refine TX_pick_t rfl hc64 rfl ?_
                    obtain rfl := some_s h57
                    with_unfolding_all refine TX_assign rfl ?_
                    with_unfolding_all refine TX_nil ?_
                    exact joinQ_normal ⟨s40, (hO41.sub 0 rfl), (Le_fr ⟨rfl, ⟨rfl, trivial⟩⟩)⟩
                  · skip
                    replace h57 := and_f hc64 h57
                    obtain rfl := some_s h57
                    with_unfolding_all refine TX_guard_no_t rfl rfl hc64 ?_
                    with_unfolding_all refine TX_guard_no_t rfl rfl hc64 ?_
                    with_unfolding_all refine TX_pick_f rfl hc64 rfl ?_
                    with_unfolding_all refine TX_assign rfl ?_
                    with_unfolding_all refine TX_nil ?_
                    exact joinQ_normal ⟨s40, (hO41.sub 0 rfl), (Le_fr ⟨rfl, ⟨rfl, trivial⟩⟩)⟩
                · skip
                  replace h55 := and_f hc63 h55
                  obtain rfl := some_s h55
                  with_unfolding_all refine TX_guard_no_t rfl rfl hc63 ?_
                  with_unfolding_all refine TX_pick_f rfl hc63 rfl ?_
                  with_unfolding_all refine TX_move rfl ?_
                  replace h57 := and_f rfl h57
                  obtain rfl := some_s h57
                  with_unfolding_all refine TX_guard_no_t rfl rfl rfl ?_
                  with_unfolding_all refine TX_guard_no_t rfl rfl rfl ?_
                  with_unfolding_all refine TX_guard_no_t rfl rfl rfl ?_
                  with_unfolding_all refine TX_pick_f rfl rfl rfl ?_
                  with_unfolding_all refine TX_assign rfl ?_
                  with_unfolding_all refine TX_nil ?_
                  exact joinQ_normal ⟨s40, (hO41.sub 0 rfl), (Le_fr ⟨rfl, ⟨rfl, trivial⟩⟩)⟩
              · skip
                rintro zj58 ⟨s59, hO60, hz61⟩
                with_unfolding_all refine thenQ_normal ?_
                refine TE_pre hz61 ?_
                obtain ⟨j65, h69, hF⟩ := bind_s hF
                refine TE_cutQ (fun z => ∃ (s66 : Mem), Own σ [] s66 [] ∧ Le z ⟨fr 80 [(0, .int .i32 (x0_)), (51, .bool (j65))], [], s66⟩) ?_ ?_
                · skip
                  replace hF := h69
                  with_unfolding_all refine TE_cond rfl (fun hc70 => ?_) (fun hc70 => ?_)
                  · skip
                    replace hF := ite_t hc70 hF
                    with_unfolding_all refine TE_skip ?_
                    obtain rfl := some_s hF
                    exact joinQ_normal ⟨s59, (hO60.sub 0 rfl), (Le_fr ⟨rfl, ⟨rfl, trivial⟩⟩)⟩
                  · skip
                    replace hF := ite_f hc70 hF
                    obtain ⟨r71, h72, hF⟩ := bind_s hF
                    obtain ⟨r73, h74, hF⟩ := bind_s hF
                    with_unfolding_all refine TE_seqY ?_
                    have hM75 := MB_none s59
                    with_unfolding_all refine TX_move rfl ?_
                    with_unfolding_all refine TX_cmp rfl rfl rfl ?_
                    with_unfolding_all refine TX_move rfl ?_
                    with_unfolding_all refine TX_guard_t rfl rfl (fun hc76 => ?_) (fun hc76 => ?_)
                    · skip
                      replace h72 := and_t hc76 h72
                      with_unfolding_all refine TX_move rfl ?_
                      with_unfolding_all refine TX_guard_yes rfl rfl hc76 ?_
                      with_unfolding_all refine TX_cmp rfl rfl rfl ?_
                      with_unfolding_all refine TX_pick_t rfl hc76 rfl ?_
                      obtain rfl := some_s h72
                      with_unfolding_all refine TX_move rfl ?_
                      with_unfolding_all refine TX_guard_t rfl rfl (fun hc77 => ?_) (fun hc77 => ?_)
                      · skip
                        replace h74 := and_t hc77 h74
                        with_unfolding_all refine TX_move rfl ?_
                        with_unfolding_all refine TX_guard_yes rfl rfl hc77 ?_
                        with_unfolding_all refine TX_bit rfl rfl rfl ?_
                        with_unfolding_all refine TX_guard_yes rfl rfl hc77 ?_
                        with_unfolding_all refine TX_cmp rfl rfl rfl ?_
                        with_unfolding_all refine TX_pick_t rfl hc77 rfl ?_
                        obtain rfl := some_s h74
                        with_unfolding_all refine TX_assign rfl ?_
                        with_unfolding_all refine TX_nil ?_
                        obtain rfl := some_s hF
                        exact joinQ_normal ⟨s59, (hO60.sub 0 rfl), (Le_fr ⟨rfl, ⟨rfl, trivial⟩⟩)⟩
                      · skip
                        replace h74 := and_f hc77 h74
                        obtain rfl := some_s h74
                        with_unfolding_all refine TX_guard_no_t rfl rfl hc77 ?_
                        with_unfolding_all refine TX_guard_no_t rfl rfl hc77 ?_
                        with_unfolding_all refine TX_pick_f rfl hc77 rfl ?_
                        with_unfolding_all refine TX_assign rfl ?_
                        with_unfolding_all refine TX_nil ?_
                        obtain rfl := some_s hF
                        exact joinQ_normal ⟨s59, (hO60.sub 0 rfl), (Le_fr ⟨rfl, ⟨rfl, trivial⟩⟩)⟩
                    · skip
                      replace h72 := and_f hc76 h72
                      obtain rfl := some_s h72
                      with_unfolding_all refine TX_guard_no_t rfl rfl hc76 ?_
                      with_unfolding_all refine TX_pick_f rfl hc76 rfl ?_
                      with_unfolding_all refine TX_move rfl ?_
                      replace h74 := and_f rfl h74
                      obtain rfl := some_s h74
                      with_unfolding_all refine TX_guard_no_t rfl rfl rfl ?_
                      with_unfolding_all refine TX_guard_no_t rfl rfl rfl ?_
                      with_unfolding_all refine TX_guard_no_t rfl rfl rfl ?_
                      with_unfolding_all refine TX_pick_f rfl rfl rfl ?_
                      with_unfolding_all refine TX_assign rfl ?_
                      with_unfolding_all refine TX_nil ?_
                      obtain rfl := some_s hF
                      exact joinQ_normal ⟨s59, (hO60.sub 0 rfl), (Le_fr ⟨rfl, ⟨rfl, trivial⟩⟩)⟩
                · skip
                  rintro zj65 ⟨s66, hO67, hz68⟩
                  with_unfolding_all refine thenQ_normal ?_
                  refine TE_pre hz68 ?_
                  with_unfolding_all refine TE_cond rfl (fun hc78 => ?_) (fun hc78 => ?_)
                  · skip
                    replace hF := ite_t hc78 hF
                    with_unfolding_all refine TE_seq ?_
                    with_unfolding_all refine TE_seqY ?_
                    have hM79 := MB_none s66
                    with_unfolding_all refine TX_move rfl ?_
                    with_unfolding_all refine TX_ari rfl rfl rfl ?_
                    with_unfolding_all refine TX_assign rfl ?_
                    with_unfolding_all refine TX_nil ?_
                    with_unfolding_all refine thenQ_normal ?_
                    with_unfolding_all refine TE_ret ?_
                    with_unfolding_all refine blockQ_ret ?_
                    with_unfolding_all refine thenQ_ret ?_
                    obtain rfl := some_s hF
                    exact done_any (vs := [.int .i32 ((IntKind.wrap .i32 (x0_ + 1)))]) (.inr rfl) rfl (resR_tmp rfl resR_nil) ⟨rfl, hO67.ext⟩
                  · skip
                    replace hF := ite_f hc78 hF
                    with_unfolding_all refine TE_seq ?_
                    with_unfolding_all refine TE_seqY ?_
                    have hM80 := MB_none s66
                    with_unfolding_all refine TX_move rfl ?_
                    with_unfolding_all refine TX_cmp rfl rfl rfl ?_
                    with_unfolding_all refine TX_assign rfl ?_
                    with_unfolding_all refine TX_nil ?_
                    with_unfolding_all refine thenQ_normal ?_
                    with_unfolding_all refine TE_cond rfl (fun hc81 => ?_) (fun hc81 => ?_)
                    · skip
                      replace hF := ite_t hc81 hF
                      with_unfolding_all refine TE_seq ?_
                      with_unfolding_all refine TE_seqY ?_
                      have hM82 := MB_none s66
                      with_unfolding_all refine TX_assign rfl ?_
                      with_unfolding_all refine TX_nil ?_
                      with_unfolding_all refine thenQ_normal ?_
                      with_unfolding_all refine TE_ret ?_
                      with_unfolding_all refine blockQ_ret ?_
                      with_unfolding_all refine thenQ_ret ?_
                      obtain rfl := some_s hF
                      exact done_any (vs := [.int .i32 (255)]) (.inr rfl) rfl (resR_tmp rfl resR_nil) ⟨rfl, hO67.ext⟩
                    · skip
                      replace hF := ite_f hc81 hF
                      with_unfolding_all refine TE_skip ?_
                      with_unfolding_all refine blockQ_normal ?_
                      with_unfolding_all refine thenQ_normal ?_
                      with_unfolding_all refine TE_seq ?_
                      with_unfolding_all refine TE_seqY ?_
                      have hM83 := MB_none s66
                      with_unfolding_all refine TX_move rfl ?_
                      with_unfolding_all refine TX_assign rfl ?_
                      with_unfolding_all refine TX_nil ?_
                      with_unfolding_all refine thenQ_normal ?_
                      with_unfolding_all refine TE_ret ?_
                      obtain rfl := some_s hF
                      exact done_any (vs := [.int .i32 (x0_)]) (.inr rfl) rfl (resR_tmp rfl resR_nil) ⟨rfl, hO67.ext⟩
theorem utf_Plain_ok {x0_ : Int} {y : Int} (hF : F.utf_Plain x0_ = some y) {v0_ : AV} {σ : Mem} (h0_ : (eI .i32).rel v0_ x0_)  :
    CallE Try.prog 13 [v0_] σ (fun v σ' => (eI .i32).rel v y ∧ Ext σ σ') := by
  unfold F.utf_Plain at hF
  obtain rfl := h0_
  refine CallE_of Try.func13 rfl Try.ntmps13 (by simp) ?_
  have hO0 := Own.start σ
  with_unfolding_all refine TE_seq ?_
  with_unfolding_all refine TE_seqY ?_
  have hM1 := MB_none σ
  with_unfolding_all refine TX_assign rfl ?_
  with_unfolding_all refine TX_nil ?_
  with_unfolding_all refine thenQ_normal ?_
  with_unfolding_all refine TE_seq ?_
  with_unfolding_all refine TE_seqY ?_
  have hM2 := MB_none σ
  with_unfolding_all refine TX_move rfl ?_
  with_unfolding_all refine TX_convInt rfl rfl rfl ?_
  with_unfolding_all refine TX_ari rfl rfl rfl ?_
  with_unfolding_all refine TX_assign rfl ?_
  with_unfolding_all refine TX_nil ?_
  with_unfolding_all refine thenQ_normal ?_
  with_unfolding_all refine TE_seq ?_
  with_unfolding_all refine TE_seq ?_
  obtain ⟨r3, h4, hF⟩ := bind_s hF
  obtain ⟨r7, h8, hF⟩ := bind_s hF
  refine TE_cutQ (fun z => ∃ (s10 : Mem), Own σ [] s10 [] ∧ Le z ⟨fr 22 [(0, .int .i32 (x0_)), (3, .int .i64 ((IntKind.wrap .i64 ((IntKind.wrap .i64 x0_) - 192)))), (17, .bool (r7))], [], s10⟩) ?_ ?_
  · skip
    with_unfolding_all refine TE_seqY ?_
    have hM13 := MB_none σ
    with_unfolding_all refine TX_move rfl ?_
    with_unfolding_all refine TX_cmp rfl rfl rfl ?_
    with_unfolding_all refine TX_move rfl ?_
    with_unfolding_all refine TX_guard_f rfl rfl (fun hc14 => ?_) (fun hc14 => ?_)
    · skip
      replace h4 := or_t hc14 h4
      obtain rfl := some_s h4
      with_unfolding_all refine TX_guard_no_f rfl rfl hc14 ?_
      with_unfolding_all refine TX_pick_t rfl hc14 rfl ?_
      with_unfolding_all refine TX_move rfl ?_
      replace h8 := ite_t rfl h8
      obtain rfl := some_s h8
      with_unfolding_all refine TX_guard_no_f rfl rfl rfl ?_
      with_unfolding_all refine TX_guard_no_f rfl rfl rfl ?_
      with_unfolding_all refine TX_guard_no_f rfl rfl rfl ?_
      with_unfolding_all refine TX_pick_t rfl rfl rfl ?_
      with_unfolding_all refine TX_nil ?_
      exact joinQ_normal ⟨σ, (hO0.sub 0 rfl), (Le_fr ⟨rfl, ⟨rfl, ⟨rfl, trivial⟩⟩⟩)⟩
    · skip
      replace h4 := or_f hc14 h4
      with_unfolding_all refine TX_move rfl ?_
      with_unfolding_all refine TX_guard_yes rfl rfl hc14 ?_
      with_unfolding_all refine TX_cmp rfl rfl rfl ?_
      with_unfolding_all refine TX_pick_f rfl hc14 rfl ?_
      obtain rfl := some_s h4
      with_unfolding_all refine TX_move rfl ?_
      with_unfolding_all refine TX_guard_f rfl rfl (fun hc15 => ?_) (fun hc15 => ?_)
      · skip
        replace h8 := ite_t hc15 h8
        obtain rfl := some_s h8
        with_unfolding_all refine TX_guard_no_f rfl rfl hc15 ?_
        with_unfolding_all refine TX_guard_no_f rfl rfl hc15 ?_
        with_unfolding_all refine TX_pick_t rfl hc15 rfl ?_
        with_unfolding_all refine TX_nil ?_
        exact joinQ_normal ⟨σ, (hO0.sub 0 rfl), (Le_fr ⟨rfl, ⟨rfl, ⟨rfl, trivial⟩⟩⟩)⟩
      · skip
        replace h8 := ite_f hc15 h8
        obtain ⟨x5, h6, h8⟩ := bind_s h8
        with_unfolding_all refine TX_move rfl ?_
        with_unfolding_all refine TX_guard_yes rfl rfl hc15 ?_
        with_unfolding_all refine TY_sidx rfl rfl rfl h6 ?_
        with_unfolding_all refine TX_guard_yes rfl rfl hc15 ?_
        with_unfolding_all refine TX_cmp rfl rfl rfl ?_
        with_unfolding_all refine TX_pick_f rfl hc15 rfl ?_
        obtain rfl := some_s h8
        with_unfolding_all refine TX_nil ?_
        exact joinQ_normal ⟨σ, (hO0.sub 0 rfl), (Le_fr ⟨rfl, ⟨rfl, ⟨rfl, trivial⟩⟩⟩)⟩
  · skip
    rintro zj9 ⟨s10, hO11, hz12⟩
    with_unfolding_all refine thenQ_normal ?_
    refine TE_pre hz12 ?_
    with_unfolding_all refine TE_cond rfl (fun hc16 => ?_) (fun hc16 => ?_)
    · skip
      replace hF := ite_t hc16 hF
      with_unfolding_all refine TE_seq ?_
      with_unfolding_all refine TE_seqY ?_
      have hM17 := MB_none s10
      with_unfolding_all refine TX_move rfl ?_
      with_unfolding_all refine TX_assign rfl ?_
      with_unfolding_all refine TX_nil ?_
      with_unfolding_all refine thenQ_normal ?_
      with_unfolding_all refine TE_ret ?_
      with_unfolding_all refine thenQ_ret ?_
      obtain rfl := some_s hF
      exact done_any (vs := [.int .i32 (x0_)]) (.inr rfl) rfl (resR_tmp rfl resR_nil) ⟨rfl, hO11.ext⟩
    · skip
      replace hF := ite_f hc16 hF
      with_unfolding_all refine TE_skip ?_
      with_unfolding_all refine thenQ_normal ?_
      with_unfolding_all refine TE_seq ?_
      obtain ⟨x18, h19, hF⟩ := bind_s hF
      with_unfolding_all refine TE_seqY ?_
      have hM20 := MB_none s10
      with_unfolding_all refine TX_move rfl ?_
      with_unfolding_all refine TY_sidx rfl rfl rfl h19 ?_
      with_unfolding_all refine TX_convInt rfl rfl rfl ?_
      with_unfolding_all refine TX_assign rfl ?_
      with_unfolding_all refine TX_nil ?_
      with_unfolding_all refine thenQ_normal ?_
      with_unfolding_all refine TE_ret ?_
      obtain rfl := some_s hF
      exact done_any (vs := [.int .i32 ((IntKind.wrap .i32 x18))]) (.inr rfl) rfl (resR_tmp rfl resR_nil) ⟨rfl, hO11.ext⟩
theorem law02_head_ok  {y : Bool} (hF : F.law02_head  = some y)  {σ : Mem}   :
    CallE Try.prog 11 [] σ (fun v σ' => eB.rel v y ∧ Ext σ σ') := by
  unfold F.law02_head at hF
  refine CallE_of Try.func11 rfl Try.ntmps11 (by simp) ?_
  have hO0 := Own.start σ
  with_unfolding_all refine TE_seq ?_
  with_unfolding_all refine TE_seqY ?_
  have hM1 := MB_none σ
  with_unfolding_all refine TX_assign rfl ?_
  with_unfolding_all refine TX_nil ?_
  with_unfolding_all refine thenQ_normal ?_
  with_unfolding_all refine TE_seq ?_
  obtain ⟨x2, h3, hF⟩ := bind_s hF
  obtain ⟨r6, h7, hF⟩ := bind_s hF
  with_unfolding_all refine TE_seqY ?_
  have hM8 := MB_none σ
  have hc9 : CallE Try.prog 12 [.int .i32 (201)] σ _ := utf_Low_ok h3 rfl
  with_unfolding_all refine TY_call hM8 rfl en12 hc9 ?_
  intro v10 s14 hv11 hX12 hM13
  have hO15 := hO0.ext_call hX12
  obtain rfl := hv11
  with_unfolding_all refine TX_cmp rfl rfl rfl ?_
  with_unfolding_all refine TX_move rfl ?_
  with_unfolding_all refine TX_guard_t rfl rfl (fun hc16 => ?_) (fun hc16 => ?_)
  · skip
    replace h7 := ite_t hc16 h7
    obtain ⟨x4, h5, h7⟩ := bind_s h7
    have hc17 : CallE Try.prog 13 [.int .i32 (233)] s14 _ := utf_Plain_ok h5 rfl
    with_unfolding_all refine TY_call hM13 rfl en13 hc17 ?_
    intro v18 s22 hv19 hX20 hM21
    have hO23 := hO15.ext_call hX20
    obtain rfl := hv19
    with_unfolding_all refine TX_guard_yes rfl rfl hc16 ?_
    with_unfolding_all refine TX_cmp rfl rfl rfl ?_
    with_unfolding_all refine TX_pick_t rfl hc16 rfl ?_
    obtain rfl := some_s h7
    with_unfolding_all refine TX_assign rfl ?_
    with_unfolding_all refine TX_nil ?_
    with_unfolding_all refine thenQ_normal ?_
    with_unfolding_all refine TE_ret ?_
    obtain rfl := some_s hF
    exact done_any (vs := [.bool ((x4 == 101))]) (.inr rfl) rfl (resR_tmp rfl resR_nil) ⟨rfl, hO23.ext⟩
  · skip
    replace h7 := ite_f hc16 h7
    obtain rfl := some_s h7
    with_unfolding_all refine TX_guard_no_t rfl rfl hc16 ?_
    with_unfolding_all refine TX_pick_f rfl hc16 rfl ?_
    with_unfolding_all refine TX_assign rfl ?_
    with_unfolding_all refine TX_nil ?_
    with_unfolding_all refine thenQ_normal ?_
    with_unfolding_all refine TE_ret ?_
    obtain rfl := some_s hF
    exact done_any (vs := [.bool (false)]) (.inr rfl) rfl (resR_tmp rfl resR_nil) ⟨rfl, hO15.ext⟩
end Go.Proofs.Ytkhhmjikohonfaa.K
