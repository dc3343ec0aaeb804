/- Walks. Printed. -/
import Derived.Test.YtkhhmjikohonfaaGW1
namespace Go.Proofs.Ytkhhmjikohonfaa.K
open Go Go.RowKit F
set_option maxRecDepth 100000
set_option maxHeartbeats 4000000
set_option linter.unusedVariables false
set_option linter.unusedSimpArgs false
theorem utf_Next_ok {x0_ : Str} {y : (Int × Int)} (hF : F.utf_Next x0_ = some y) {v0_ : AV} {σ : Mem} (h0_ : eS.rel v0_ x0_)  :
    CallE Try.prog 15 [v0_] σ (fun v σ' => (R2 (eI .i32).rel (eI .i64).rel) v y ∧ Ext σ σ') := by
  unfold F.utf_Next at hF
  obtain rfl := h0_
  refine CallE_of Try.func15 rfl Try.ntmps15 (by simp) ?_
  have hO0 := Own.start σ
  with_unfolding_all refine TE_seq ?_
  with_unfolding_all refine TE_seqY ?_
  have hM1 := MB_none σ
  with_unfolding_all refine TX_assign rfl ?_
  with_unfolding_all refine TX_assign rfl ?_
  with_unfolding_all refine TX_nil ?_
  with_unfolding_all refine thenQ_normal ?_
  with_unfolding_all refine TE_seq ?_
  with_unfolding_all refine TE_seq ?_
  with_unfolding_all refine TE_seqY ?_
  have hM2 := MB_none σ
  with_unfolding_all refine TX_move rfl ?_
  with_unfolding_all refine TY_scmp (a := x0_) (b := []) rfl rfl rfl ?_
  with_unfolding_all refine TX_nil ?_
  with_unfolding_all refine thenQ_normal ?_
  with_unfolding_all refine TE_cond rfl (fun hc3 => ?_) (fun hc3 => ?_)
  · skip
    replace hF := ite_t hc3 hF
    with_unfolding_all refine TE_seq ?_
    with_unfolding_all refine TE_seqY ?_
    have hM4 := MB_none σ
    with_unfolding_all refine TX_assign rfl ?_
    with_unfolding_all refine TX_assign rfl ?_
    with_unfolding_all refine TX_nil ?_
    with_unfolding_all refine thenQ_normal ?_
    with_unfolding_all refine TE_ret ?_
    with_unfolding_all refine thenQ_ret ?_
    obtain rfl := some_s hF
    exact done_any (vs := [.int .i32 (0), .int .i64 (0)]) (.inr rfl) rfl (resR_tmp rfl (resR_tmp rfl resR_nil)) ⟨⟨_, _, rfl, rfl, rfl⟩, hO0.ext⟩
  · skip
    replace hF := ite_f hc3 hF
    with_unfolding_all refine TE_skip ?_
    with_unfolding_all refine thenQ_normal ?_
    with_unfolding_all refine TE_seq ?_
    obtain ⟨x5, h6, hF⟩ := bind_s hF
    with_unfolding_all refine TE_seqY ?_
    have hM7 := MB_none σ
    with_unfolding_all refine TX_move rfl ?_
    with_unfolding_all refine TY_sidx rfl rfl rfl h6 ?_
    with_unfolding_all refine TX_assign rfl ?_
    with_unfolding_all refine TX_nil ?_
    with_unfolding_all refine thenQ_normal ?_
    with_unfolding_all refine TE_seq ?_
    with_unfolding_all refine TE_seqY ?_
    have hM8 := MB_none σ
    with_unfolding_all refine TX_assign rfl ?_
    with_unfolding_all refine TX_assign rfl ?_
    with_unfolding_all refine TX_assign rfl ?_
    with_unfolding_all refine TX_nil ?_
    with_unfolding_all refine thenQ_normal ?_
    with_unfolding_all refine TE_seq ?_
    refine TE_cutQ (fun z => ∃ j9 : (Int × Int × Int), F.utf_Next_k1 x0_ j9 = some y ∧ ∃ (s10 : Mem), Own σ [] s10 [] ∧ Le z ⟨fr 91 [(0, .str (bs (x0_))), (5, .int .i64 (j9.1)), (6, .int .i32 (j9.2.1)), (7, .int .i32 (j9.2.2))], [], s10⟩) ?_ ?_
    · skip
      with_unfolding_all refine TE_block ?_
      with_unfolding_all refine TE_seq ?_
      with_unfolding_all refine TE_seqY ?_
      have hM13 := MB_none σ
      with_unfolding_all refine TX_move rfl ?_
      with_unfolding_all refine TX_cmp rfl rfl rfl ?_
      with_unfolding_all refine TX_assign rfl ?_
      with_unfolding_all refine TX_nil ?_
      with_unfolding_all refine thenQ_normal ?_
      with_unfolding_all refine TE_cond rfl (fun hc14 => ?_) (fun hc14 => ?_)
      · skip
        replace hF := ite_t hc14 hF
        with_unfolding_all refine TE_seq ?_
        with_unfolding_all refine TE_seqY ?_
        have hM15 := MB_none σ
        with_unfolding_all refine TX_move rfl ?_
        with_unfolding_all refine TX_convInt rfl rfl rfl ?_
        with_unfolding_all refine TX_assign rfl ?_
        with_unfolding_all refine TX_assign rfl ?_
        with_unfolding_all refine TX_nil ?_
        with_unfolding_all refine thenQ_normal ?_
        with_unfolding_all refine TE_ret ?_
        with_unfolding_all refine blockQ_ret ?_
        with_unfolding_all refine joinQ_ret ?_
        with_unfolding_all refine thenQ_ret ?_
        obtain rfl := some_s hF
        exact done_any (vs := [.int .i32 ((IntKind.wrap .i32 x5)), .int .i64 (1)]) (.inr rfl) rfl (resR_tmp rfl (resR_tmp rfl resR_nil)) ⟨⟨_, _, rfl, rfl, rfl⟩, hO0.ext⟩
      · skip
        replace hF := ite_f hc14 hF
        with_unfolding_all refine TE_seq ?_
        obtain ⟨r16, h17, hF⟩ := bind_s hF
        refine TE_cutQ (fun z => ∃ (s19 : Mem), Own σ [] s19 [] ∧ Le z ⟨fr 91 [(0, .str (bs (x0_))), (4, .int .u8 (x5)), (5, .int .i64 (0)), (6, .int .i32 (0)), (7, .int .i32 (0)), (18, .bool (r16))], [], s19⟩) ?_ ?_
        · skip
          with_unfolding_all refine TE_seqY ?_
          have hM22 := MB_none σ
          with_unfolding_all refine TX_move rfl ?_
          with_unfolding_all refine TX_cmp rfl rfl rfl ?_
          with_unfolding_all refine TX_move rfl ?_
          with_unfolding_all refine TX_guard_t rfl rfl (fun hc23 => ?_) (fun hc23 => ?_)
          · skip
            replace h17 := and_t hc23 h17
            with_unfolding_all refine TX_move rfl ?_
            with_unfolding_all refine TX_guard_yes rfl rfl hc23 ?_
            with_unfolding_all refine TX_cmp rfl rfl rfl ?_
            with_unfolding_all refine TX_pick_t rfl hc23 rfl ?_
            obtain rfl := some_s h17
            with_unfolding_all refine TX_assign rfl ?_
            with_unfolding_all refine TX_nil ?_
            exact joinQ_normal ⟨σ, (hO0.sub 0 rfl), (Le_fr ⟨rfl, ⟨rfl, ⟨rfl, ⟨rfl, ⟨rfl, ⟨rfl, trivial⟩⟩⟩⟩⟩⟩)⟩
          · skip
            replace h17 := and_f hc23 h17
            obtain rfl := some_s h17
            with_unfolding_all refine TX_guard_no_t rfl rfl hc23 ?_
            with_unfolding_all refine TX_pick_f rfl hc23 rfl ?_
            with_unfolding_all refine TX_assign rfl ?_
            with_unfolding_all refine TX_nil ?_
            exact joinQ_normal ⟨σ, (hO0.sub 0 rfl), (Le_fr ⟨rfl, ⟨rfl, ⟨rfl, ⟨rfl, ⟨rfl, ⟨rfl, trivial⟩⟩⟩⟩⟩⟩)⟩
        · skip
          rintro zj18 ⟨s19, hO20, hz21⟩
          with_unfolding_all refine thenQ_normal ?_
          refine TE_pre hz21 ?_
          with_unfolding_all refine TE_cond rfl (fun hc24 => ?_) (fun hc24 => ?_)
          · skip
            replace hF := ite_t hc24 hF
            with_unfolding_all refine TE_seqY ?_
            have hM25 := MB_none s19
            with_unfolding_all refine TX_move rfl ?_
            with_unfolding_all refine TX_bit rfl rfl rfl ?_
            with_unfolding_all refine TX_convInt rfl rfl rfl ?_
            with_unfolding_all refine TX_assign rfl ?_
            with_unfolding_all refine TX_assign rfl ?_
            with_unfolding_all refine TX_assign rfl ?_
            with_unfolding_all refine TX_nil ?_
            with_unfolding_all refine blockQ_normal ?_
            exact joinQ_normal ⟨_, hF, s19, (hO20.sub 0 rfl), (Le_fr ⟨rfl, ⟨rfl, ⟨rfl, ⟨rfl, trivial⟩⟩⟩⟩)⟩
          · skip
            replace hF := ite_f hc24 hF
            with_unfolding_all refine TE_seq ?_
            obtain ⟨r26, h27, hF⟩ := bind_s hF
            refine TE_cutQ (fun z => ∃ (s29 : Mem), Own σ [] s29 [] ∧ Le z ⟨fr 91 [(0, .str (bs (x0_))), (4, .int .u8 (x5)), (5, .int .i64 (0)), (6, .int .i32 (0)), (7, .int .i32 (0)), (28, .bool (r26))], [], s29⟩) ?_ ?_
            · skip
              with_unfolding_all refine TE_seqY ?_
              have hM32 := MB_none s19
              with_unfolding_all refine TX_move rfl ?_
              with_unfolding_all refine TX_cmp rfl rfl rfl ?_
              with_unfolding_all refine TX_move rfl ?_
              with_unfolding_all refine TX_guard_t rfl rfl (fun hc33 => ?_) (fun hc33 => ?_)
              · skip
                replace h27 := and_t hc33 h27
                with_unfolding_all refine TX_move rfl ?_
                with_unfolding_all refine TX_guard_yes rfl rfl hc33 ?_
                with_unfolding_all refine TX_cmp rfl rfl rfl ?_
                with_unfolding_all refine TX_pick_t rfl hc33 rfl ?_
                obtain rfl := some_s h27
                with_unfolding_all refine TX_assign rfl ?_
                with_unfolding_all refine TX_nil ?_
                exact joinQ_normal ⟨s19, (hO20.sub 0 rfl), (Le_fr ⟨rfl, ⟨rfl, ⟨rfl, ⟨rfl, ⟨rfl, ⟨rfl, trivial⟩⟩⟩⟩⟩⟩)⟩
              · skip
                replace h27 := and_f hc33 h27
                obtain rfl := some_s h27
                with_unfolding_all refine TX_guard_no_t rfl rfl hc33 ?_
                with_unfolding_all refine TX_pick_f rfl hc33 rfl ?_
                with_unfolding_all refine TX_assign rfl ?_
                with_unfolding_all refine TX_nil ?_
                exact joinQ_normal ⟨s19, (hO20.sub 0 rfl), (Le_fr ⟨rfl, ⟨rfl, ⟨rfl, ⟨rfl, ⟨rfl, ⟨rfl, trivial⟩⟩⟩⟩⟩⟩)⟩
            · skip
              rintro zj28 ⟨s29, hO30, hz31⟩
              with_unfolding_all refine thenQ_normal ?_
              refine TE_pre hz31 ?_
              with_unfolding_all refine TE_cond rfl (fun hc34 => ?_) (fun hc34 => ?_)
              · skip
                replace hF := ite_t hc34 hF
                with_unfolding_all refine TE_seqY ?_
                have hM35 := MB_none s29
                with_unfolding_all refine TX_move rfl ?_
                with_unfolding_all refine TX_bit rfl rfl rfl ?_
                with_unfolding_all refine TX_convInt rfl rfl rfl ?_
                with_unfolding_all refine TX_assign rfl ?_
                with_unfolding_all refine TX_assign rfl ?_
                with_unfolding_all refine TX_assign rfl ?_
                with_unfolding_all refine TX_nil ?_
                with_unfolding_all refine blockQ_normal ?_
                exact joinQ_normal ⟨_, hF, s29, (hO30.sub 0 rfl), (Le_fr ⟨rfl, ⟨rfl, ⟨rfl, ⟨rfl, trivial⟩⟩⟩⟩)⟩
              · skip
                replace hF := ite_f hc34 hF
                with_unfolding_all refine TE_seq ?_
                obtain ⟨r36, h37, hF⟩ := bind_s hF
                refine TE_cutQ (fun z => ∃ (s39 : Mem), Own σ [] s39 [] ∧ Le z ⟨fr 91 [(0, .str (bs (x0_))), (4, .int .u8 (x5)), (5, .int .i64 (0)), (6, .int .i32 (0)), (7, .int .i32 (0)), (38, .bool (r36))], [], s39⟩) ?_ ?_
                · skip
                  with_unfolding_all refine TE_seqY ?_
                  have hM42 := MB_none s29
                  with_unfolding_all refine TX_move rfl ?_
                  with_unfolding_all refine TX_cmp rfl rfl rfl ?_
                  with_unfolding_all refine TX_move rfl ?_
                  with_unfolding_all refine TX_guard_t rfl rfl (fun hc43 => ?_) (fun hc43 => ?_)
                  · skip
                    replace h37 := and_t hc43 h37
                    with_unfolding_all refine TX_move rfl ?_
                    with_unfolding_all refine TX_guard_yes rfl rfl hc43 ?_
                    with_unfolding_all refine TX_cmp rfl rfl rfl ?_
                    with_unfolding_all refine TX_pick_t rfl hc43 rfl ?_
                    obtain rfl := some_s h37
                    with_unfolding_all refine TX_assign rfl ?_
                    with_unfolding_all refine TX_nil ?_
                    exact joinQ_normal ⟨s29, (hO30.sub 0 rfl), (Le_fr ⟨rfl, ⟨rfl, ⟨rfl, ⟨rfl, ⟨rfl, ⟨rfl, trivial⟩⟩⟩⟩⟩⟩)⟩
                  · skip
                    replace h37 := and_f hc43 h37
                    obtain rfl := some_s h37
                    with_unfolding_all refine TX_guard_no_t rfl rfl hc43 ?_
                    with_unfolding_all refine TX_pick_f rfl hc43 rfl ?_
                    with_unfolding_all refine TX_assign rfl ?_
                    with_unfolding_all refine TX_nil ?_
                    exact joinQ_normal ⟨s29, (hO30.sub 0 rfl), (Le_fr ⟨rfl, ⟨rfl, ⟨rfl, ⟨rfl, ⟨rfl, ⟨rfl, trivial⟩⟩⟩⟩⟩⟩)⟩
                · skip
                  rintro zj38 ⟨s39, hO40, hz41⟩
                  with_unfolding_all refine thenQ_normal ?_
                  refine TE_pre hz41 ?_
                  with_unfolding_all refine TE_cond rfl (fun hc44 => ?_) (fun hc44 => ?_)
                  · skip
                    replace hF := ite_t hc44 hF
                    with_unfolding_all refine TE_seqY ?_
                    have hM45 := MB_none s39
                    with_unfolding_all refine TX_move rfl ?_
                    with_unfolding_all refine TX_bit rfl rfl rfl ?_
                    with_unfolding_all refine TX_convInt rfl rfl rfl ?_
                    with_unfolding_all refine TX_assign rfl ?_
                    with_unfolding_all refine TX_assign rfl ?_
                    with_unfolding_all refine TX_assign rfl ?_
                    with_unfolding_all refine TX_nil ?_
                    with_unfolding_all refine blockQ_normal ?_
                    exact joinQ_normal ⟨_, hF, s39, (hO40.sub 0 rfl), (Le_fr ⟨rfl, ⟨rfl, ⟨rfl, ⟨rfl, trivial⟩⟩⟩⟩)⟩
                  · skip
                    replace hF := ite_f hc44 hF
                    with_unfolding_all refine TE_skip ?_
                    with_unfolding_all refine blockQ_normal ?_
                    exact joinQ_normal ⟨_, hF, s39, (hO40.sub 0 rfl), (Le_fr ⟨rfl, ⟨rfl, ⟨rfl, ⟨rfl, trivial⟩⟩⟩⟩)⟩
    · skip
      clear hF
      rintro zj9 ⟨j9, hF, s10, hO11, hz12⟩
      unfold F.utf_Next_k1 at hF
      with_unfolding_all refine thenQ_normal ?_
      refine TE_pre hz12 ?_
      with_unfolding_all refine TE_seq ?_
      with_unfolding_all refine TE_seq ?_
      obtain ⟨r46, h47, hF⟩ := bind_s hF
      refine TE_cutQ (fun z => ∃ (s49 : Mem), Own σ [] s49 [] ∧ Le z ⟨fr 91 [(0, .str (bs (x0_))), (5, .int .i64 (j9.1)), (6, .int .i32 (j9.2.1)), (7, .int .i32 (j9.2.2)), (55, .bool (r46))], [], s49⟩) ?_ ?_
      · skip
        with_unfolding_all refine TE_seqY ?_
        have hM52 := MB_none s10
        with_unfolding_all refine TX_move rfl ?_
        with_unfolding_all refine TX_cmp rfl rfl rfl ?_
        with_unfolding_all refine TX_move rfl ?_
        with_unfolding_all refine TX_guard_f rfl rfl (fun hc53 => ?_) (fun hc53 => ?_)
        · skip
          replace h47 := or_t hc53 h47
          obtain rfl := some_s h47
          with_unfolding_all refine TX_guard_no_f rfl rfl hc53 ?_
          with_unfolding_all refine TX_guard_no_f rfl rfl hc53 ?_
          with_unfolding_all refine TX_guard_no_f rfl rfl hc53 ?_
          with_unfolding_all refine TX_pick_t rfl hc53 rfl ?_
          with_unfolding_all refine TX_nil ?_
          exact joinQ_normal ⟨s10, (hO11.sub 0 rfl), (Le_fr ⟨rfl, ⟨rfl, ⟨rfl, ⟨rfl, ⟨rfl, trivial⟩⟩⟩⟩⟩)⟩
        · skip
          replace h47 := or_f hc53 h47
          with_unfolding_all refine TX_move rfl ?_
          with_unfolding_all refine TX_guard_yes rfl rfl hc53 ?_
          with_unfolding_all refine TY_slen (s := x0_) rfl rfl rfl rfl rfl ?_
          with_unfolding_all refine TX_guard_yes rfl rfl hc53 ?_
          with_unfolding_all refine TX_move rfl ?_
          with_unfolding_all refine TX_guard_yes rfl rfl hc53 ?_
          with_unfolding_all refine TX_cmp rfl rfl rfl ?_
          with_unfolding_all refine TX_pick_f rfl hc53 rfl ?_
          obtain rfl := some_s h47
          with_unfolding_all refine TX_nil ?_
          exact joinQ_normal ⟨s10, (hO11.sub 0 rfl), (Le_fr ⟨rfl, ⟨rfl, ⟨rfl, ⟨rfl, ⟨rfl, trivial⟩⟩⟩⟩⟩)⟩
      · skip
        rintro zj48 ⟨s49, hO50, hz51⟩
        with_unfolding_all refine thenQ_normal ?_
        refine TE_pre hz51 ?_
        with_unfolding_all refine TE_cond rfl (fun hc54 => ?_) (fun hc54 => ?_)
        · skip
          replace hF := ite_t hc54 hF
          with_unfolding_all refine TE_seq ?_
          with_unfolding_all refine TE_seqY ?_
          have hM55 := MB_none s49
          with_unfolding_all refine TX_assign rfl ?_
          with_unfolding_all refine TX_assign rfl ?_
          with_unfolding_all refine TX_nil ?_
          with_unfolding_all refine thenQ_normal ?_
          with_unfolding_all refine TE_ret ?_
          with_unfolding_all refine thenQ_ret ?_
          obtain rfl := some_s hF
          exact done_any (vs := [.int .i32 (0), .int .i64 (0)]) (.inr rfl) rfl (resR_tmp rfl (resR_tmp rfl resR_nil)) ⟨⟨_, _, rfl, rfl, rfl⟩, hO50.ext⟩
        · skip
          replace hF := ite_f hc54 hF
          with_unfolding_all refine TE_skip ?_
          with_unfolding_all refine thenQ_normal ?_
          with_unfolding_all refine TE_seq ?_
          with_unfolding_all refine TE_seq ?_
          with_unfolding_all refine TE_seqY ?_
          have hM56 := MB_none s49
          with_unfolding_all refine TX_assign rfl ?_
          with_unfolding_all refine TX_nil ?_
          with_unfolding_all refine thenQ_normal ?_
          with_unfolding_all refine TE_block ?_
          obtain ⟨a65, h66, hF⟩ := bind_s hF
          refine TE_iter (f := F.utf_Next_s2 x0_ j9) (s0 := (j9.2.2, 1)) (a := a65) (fun (q57 : (Int × Int)) z => ∃ (s59 : Mem), Own σ [] s59 [] ∧ Le z ⟨fr 91 [(0, .str (bs (x0_))), (5, .int .i64 (j9.1)), (6, .int .i32 (j9.2.1)), (7, .int .i32 (q57.1)), (8, .int .i64 (q57.2))], [], s59⟩) (fun (a : (Int ⊕ (Int × Int))) e z => (∃ p61 : Int, a = (.inl p61) ∧ e = .exit 1 ∧ ∃ (s62 : Mem), Own σ [] s62 [] ∧ Le z ⟨fr 91 [(5, .int .i64 (j9.1)), (6, .int .i32 (j9.2.1)), (7, .int .i32 (p61))], [], s62⟩) ∨ (∃ p64 : (Int × Int), a = (.inr (p64)) ∧ e = .ret ∧ doneQ Try.prog Try.f15 (fun v σ' => (R2 (eI .i32).rel (eI .i64).rel) v p64 ∧ Ext σ σ') .ret z)) h66 ?_ ?_ ?_
          · skip
            exact ⟨s49, (hO50.sub 0 rfl), (Le_fr ⟨rfl, ⟨rfl, ⟨rfl, ⟨rfl, ⟨rfl, trivial⟩⟩⟩⟩⟩)⟩
          · skip
            clear hF
            rintro q57 zq57 r58 ⟨s59, hO60, hz67⟩ hF
            unfold F.utf_Next_s2 at hF
            refine TE_pre hz67 ?_
            with_unfolding_all refine TE_seq ?_
            with_unfolding_all refine TE_seq ?_
            with_unfolding_all refine TE_seqY ?_
            have hM68 := MB_none s59
            with_unfolding_all refine TX_move rfl ?_
            with_unfolding_all refine TX_move rfl ?_
            with_unfolding_all refine TX_cmp rfl rfl rfl ?_
            with_unfolding_all refine TX_nil ?_
            with_unfolding_all refine thenQ_normal ?_
            with_unfolding_all refine TE_cond rfl (fun hc69 => ?_) (fun hc69 => ?_)
            · skip
              replace hF := ite_t hc69 hF
              with_unfolding_all refine TE_skip ?_
              with_unfolding_all refine thenQ_normal ?_
              with_unfolding_all refine TE_seq ?_
              with_unfolding_all refine TE_block ?_
              with_unfolding_all refine TE_seq ?_
              with_unfolding_all refine TE_seq ?_
              obtain ⟨x70, h71, hF⟩ := bind_s hF
              with_unfolding_all refine TE_seqY ?_
              have hM72 := MB_none s59
              with_unfolding_all refine TX_move rfl ?_
              with_unfolding_all refine TX_move rfl ?_
              with_unfolding_all refine TY_sidx rfl rfl rfl h71 ?_
              with_unfolding_all refine TX_bit rfl rfl rfl ?_
              with_unfolding_all refine TX_cmp rfl rfl rfl ?_
              with_unfolding_all refine TX_nil ?_
              with_unfolding_all refine thenQ_normal ?_
              with_unfolding_all refine TE_cond rfl (fun hc73 => ?_) (fun hc73 => ?_)
              · skip
                replace hF := ite_t hc73 hF
                with_unfolding_all refine TE_seq ?_
                with_unfolding_all refine TE_seqY ?_
                have hM74 := MB_none s59
                with_unfolding_all refine TX_assign rfl ?_
                with_unfolding_all refine TX_assign rfl ?_
                with_unfolding_all refine TX_nil ?_
                with_unfolding_all refine thenQ_normal ?_
                with_unfolding_all refine TE_ret ?_
                with_unfolding_all refine thenQ_ret ?_
                with_unfolding_all refine blockQ_ret ?_
                with_unfolding_all refine thenQ_ret ?_
                obtain rfl := some_s hF
                exact iterQ_ret (.inr <| ⟨_, rfl, rfl, (done_any (vs := [.int .i32 (0), .int .i64 (0)]) (.inr rfl) rfl (resR_tmp rfl (resR_tmp rfl resR_nil)) ⟨⟨_, _, rfl, rfl, rfl⟩, hO60.ext⟩)⟩)
              · skip
                replace hF := ite_f hc73 hF
                with_unfolding_all refine TE_skip ?_
                with_unfolding_all refine thenQ_normal ?_
                obtain ⟨x75, h76, hF⟩ := bind_s hF
                with_unfolding_all refine TE_seqY ?_
                have hM77 := MB_none s59
                with_unfolding_all refine TX_move rfl ?_
                with_unfolding_all refine TX_sh rfl rfl (by decide) rfl ?_
                with_unfolding_all refine TX_move rfl ?_
                with_unfolding_all refine TX_move rfl ?_
                with_unfolding_all refine TY_sidx rfl rfl rfl h76 ?_
                with_unfolding_all refine TX_bit rfl rfl rfl ?_
                with_unfolding_all refine TX_convInt rfl rfl rfl ?_
                with_unfolding_all refine TX_bit rfl rfl rfl ?_
                with_unfolding_all refine TX_assign rfl ?_
                with_unfolding_all refine TX_nil ?_
                with_unfolding_all refine blockQ_normal ?_
                with_unfolding_all refine thenQ_normal ?_
                with_unfolding_all refine TE_seqY ?_
                have hM78 := MB_none s59
                with_unfolding_all refine TX_move rfl ?_
                with_unfolding_all refine TX_ari rfl rfl rfl ?_
                with_unfolding_all refine TX_assign rfl ?_
                with_unfolding_all refine TX_nil ?_
                obtain rfl := some_s hF
                exact iterQ_again ⟨s59, (hO60.sub 0 rfl), (Le_fr ⟨rfl, ⟨rfl, ⟨rfl, ⟨rfl, ⟨rfl, trivial⟩⟩⟩⟩⟩)⟩
            · skip
              replace hF := ite_f hc69 hF
              with_unfolding_all refine TE_exit ?_
              with_unfolding_all refine thenQ_exit ?_
              obtain rfl := some_s hF
              exact iterQ_exit (.inl <| ⟨_, rfl, rfl, s59, (hO60.sub 0 rfl), (Le_fr ⟨rfl, ⟨rfl, ⟨rfl, trivial⟩⟩⟩)⟩)
          · skip
            rintro eq57 zq57 (⟨p61, rfl, rfl, s62, hO63, hz79⟩ | ⟨p64, rfl, rfl, hdp64⟩)
            · skip
              try dsimp only at hF
              with_unfolding_all refine blockQ_out ?_
              with_unfolding_all refine thenQ_normal ?_
              refine TE_pre hz79 ?_
              with_unfolding_all refine TE_seq ?_
              with_unfolding_all refine TE_seq ?_
              obtain ⟨r82, h83, hF⟩ := bind_s hF
              obtain ⟨r84, h85, hF⟩ := bind_s hF
              refine TE_cutQ (fun z => ∃ (s87 : Mem), Own σ [] s87 [] ∧ Le z ⟨fr 91 [(5, .int .i64 (j9.1)), (7, .int .i32 (p61)), (88, .bool (r84))], [], s87⟩) ?_ ?_
              · skip
                with_unfolding_all refine TE_seqY ?_
                have hM90 := MB_none s62
                with_unfolding_all refine TX_move rfl ?_
                with_unfolding_all refine TX_move rfl ?_
                with_unfolding_all refine TX_cmp rfl rfl rfl ?_
                with_unfolding_all refine TX_move rfl ?_
                with_unfolding_all refine TX_guard_f rfl rfl (fun hc91 => ?_) (fun hc91 => ?_)
                · skip
                  replace h83 := ite_t hc91 h83
                  obtain rfl := some_s h83
                  with_unfolding_all refine TX_guard_no_f rfl rfl hc91 ?_
                  with_unfolding_all refine TX_guard_no_f rfl rfl hc91 ?_
                  with_unfolding_all refine TX_guard_un rfl rfl ?_
                  with_unfolding_all refine TX_guard_un rfl rfl ?_
                  with_unfolding_all refine TX_guard_no_f rfl rfl hc91 ?_
                  with_unfolding_all refine TX_pick_t rfl hc91 rfl ?_
                  with_unfolding_all refine TX_move rfl ?_
                  replace h85 := or_t rfl h85
                  obtain rfl := some_s h85
                  with_unfolding_all refine TX_guard_no_f rfl rfl rfl ?_
                  with_unfolding_all refine TX_guard_no_f rfl rfl rfl ?_
                  with_unfolding_all refine TX_pick_t rfl rfl rfl ?_
                  with_unfolding_all refine TX_nil ?_
                  exact joinQ_normal ⟨s62, (hO63.sub 0 rfl), (Le_fr ⟨rfl, ⟨rfl, ⟨rfl, trivial⟩⟩⟩)⟩
                · skip
                  replace h83 := ite_f hc91 h83
                  obtain ⟨r80, h81, h83⟩ := bind_s h83
                  with_unfolding_all refine TX_move rfl ?_
                  with_unfolding_all refine TX_guard_yes rfl rfl hc91 ?_
                  with_unfolding_all refine TX_cmp rfl rfl rfl ?_
                  with_unfolding_all refine TX_guard_yes rfl rfl hc91 ?_
                  with_unfolding_all refine TX_move rfl ?_
                  with_unfolding_all refine TX_guard_t rfl rfl (fun hc92 => ?_) (fun hc92 => ?_)
                  · skip
                    replace h81 := and_t hc92 h81
                    with_unfolding_all refine TX_move rfl ?_
                    with_unfolding_all refine TX_guard_yes rfl rfl hc92 ?_
                    with_unfolding_all refine TX_cmp rfl rfl rfl ?_
                    with_unfolding_all refine TX_guard_yes rfl rfl hc91 ?_
                    with_unfolding_all refine TX_pick_t rfl hc92 rfl ?_
                    obtain rfl := some_s h81
                    with_unfolding_all refine TX_pick_f rfl hc91 rfl ?_
                    obtain rfl := some_s h83
                    with_unfolding_all refine TX_move rfl ?_
                    with_unfolding_all refine TX_guard_f rfl rfl (fun hc93 => ?_) (fun hc93 => ?_)
                    · skip
                      replace h85 := or_t hc93 h85
                      obtain rfl := some_s h85
                      with_unfolding_all refine TX_guard_no_f rfl rfl hc93 ?_
                      with_unfolding_all refine TX_pick_t rfl hc93 rfl ?_
                      with_unfolding_all refine TX_nil ?_
                      exact joinQ_normal ⟨s62, (hO63.sub 0 rfl), (Le_fr ⟨rfl, ⟨rfl, ⟨rfl, trivial⟩⟩⟩)⟩
                    · skip
                      replace h85 := or_f hc93 h85
                      with_unfolding_all refine TX_move rfl ?_
                      with_unfolding_all refine TX_guard_yes rfl rfl hc93 ?_
                      with_unfolding_all refine TX_cmp rfl rfl rfl ?_
                      with_unfolding_all refine TX_pick_f rfl hc93 rfl ?_
                      obtain rfl := some_s h85
                      with_unfolding_all refine TX_nil ?_
                      exact joinQ_normal ⟨s62, (hO63.sub 0 rfl), (Le_fr ⟨rfl, ⟨rfl, ⟨rfl, trivial⟩⟩⟩)⟩
                  · skip
                    replace h81 := and_f hc92 h81
                    obtain rfl := some_s h81
                    with_unfolding_all refine TX_guard_no_t rfl rfl hc92 ?_
                    with_unfolding_all refine TX_guard_yes rfl rfl hc91 ?_
                    with_unfolding_all refine TX_pick_f rfl hc92 rfl ?_
                    with_unfolding_all refine TX_pick_f rfl hc91 rfl ?_
                    obtain rfl := some_s h83
                    with_unfolding_all refine TX_move rfl ?_
                    replace h85 := or_f rfl h85
                    with_unfolding_all refine TX_guard_yes rfl rfl rfl ?_
                    with_unfolding_all refine TX_move rfl ?_
                    with_unfolding_all refine TX_guard_yes rfl rfl rfl ?_
                    with_unfolding_all refine TX_cmp rfl rfl rfl ?_
                    with_unfolding_all refine TX_pick_f rfl rfl rfl ?_
                    obtain rfl := some_s h85
                    with_unfolding_all refine TX_nil ?_
                    exact joinQ_normal ⟨s62, (hO63.sub 0 rfl), (Le_fr ⟨rfl, ⟨rfl, ⟨rfl, trivial⟩⟩⟩)⟩
              · skip
                rintro zj86 ⟨s87, hO88, hz89⟩
                with_unfolding_all refine thenQ_normal ?_
                refine TE_pre hz89 ?_
                with_unfolding_all refine TE_cond rfl (fun hc94 => ?_) (fun hc94 => ?_)
                · skip
                  replace hF := ite_t hc94 hF
                  with_unfolding_all refine TE_seq ?_
                  with_unfolding_all refine TE_seqY ?_
                  have hM95 := MB_none s87
                  with_unfolding_all refine TX_assign rfl ?_
                  with_unfolding_all refine TX_assign rfl ?_
                  with_unfolding_all refine TX_nil ?_
                  with_unfolding_all refine thenQ_normal ?_
                  with_unfolding_all refine TE_ret ?_
                  with_unfolding_all refine thenQ_ret ?_
                  obtain rfl := some_s hF
                  exact done_any (vs := [.int .i32 (0), .int .i64 (0)]) (.inr rfl) rfl (resR_tmp rfl (resR_tmp rfl resR_nil)) ⟨⟨_, _, rfl, rfl, rfl⟩, hO88.ext⟩
                · skip
                  replace hF := ite_f hc94 hF
                  with_unfolding_all refine TE_skip ?_
                  with_unfolding_all refine thenQ_normal ?_
                  with_unfolding_all refine TE_seq ?_
                  with_unfolding_all refine TE_seqY ?_
                  have hM96 := MB_none s87
                  with_unfolding_all refine TX_move rfl ?_
                  with_unfolding_all refine TX_move rfl ?_
                  with_unfolding_all refine TX_assign rfl ?_
                  with_unfolding_all refine TX_assign rfl ?_
                  with_unfolding_all refine TX_nil ?_
                  with_unfolding_all refine thenQ_normal ?_
                  with_unfolding_all refine TE_ret ?_
                  obtain rfl := some_s hF
                  exact done_any (vs := [.int .i32 (p61), .int .i64 (j9.1)]) (.inr rfl) rfl (resR_tmp rfl (resR_tmp rfl resR_nil)) ⟨⟨_, _, rfl, rfl, rfl⟩, hO88.ext⟩
            · skip
              try dsimp only at hF
              with_unfolding_all refine blockQ_ret ?_
              with_unfolding_all refine thenQ_ret ?_
              obtain rfl := some_s hF
              exact hdp64
theorem law02_sign_ok {x0_ : Int} {y : Bool} (hF : F.law02_sign x0_ = some y) {v0_ : AV} {σ : Mem} (h0_ : (eI .i32).rel v0_ x0_)  :
    CallE Try.prog 16 [v0_] σ (fun v σ' => eB.rel v y ∧ Ext σ σ') := by
  unfold F.law02_sign at hF
  obtain rfl := h0_
  refine CallE_of Try.func16 rfl Try.ntmps16 (by simp) ?_
  have hO0 := Own.start σ
  with_unfolding_all refine TE_seq ?_
  with_unfolding_all refine TE_seqY ?_
  have hM1 := MB_none σ
  with_unfolding_all refine TX_assign rfl ?_
  with_unfolding_all refine TX_nil ?_
  with_unfolding_all refine thenQ_normal ?_
  with_unfolding_all refine TE_seq ?_
  obtain ⟨r2, h3, hF⟩ := bind_s hF
  obtain ⟨r6, h7, hF⟩ := bind_s hF
  with_unfolding_all refine TE_seqY ?_
  have hM8 := MB_none σ
  with_unfolding_all refine TX_move rfl ?_
  with_unfolding_all refine TX_cmp rfl rfl rfl ?_
  with_unfolding_all refine TX_move rfl ?_
  with_unfolding_all refine TX_guard_t rfl rfl (fun hc9 => ?_) (fun hc9 => ?_)
  · skip
    replace h3 := and_t hc9 h3
    with_unfolding_all refine TX_move rfl ?_
    with_unfolding_all refine TX_guard_yes rfl rfl hc9 ?_
    with_unfolding_all refine TX_cmp rfl rfl rfl ?_
    with_unfolding_all refine TX_pick_t rfl hc9 rfl ?_
    obtain rfl := some_s h3
    with_unfolding_all refine TX_move rfl ?_
    with_unfolding_all refine TX_guard_t rfl rfl (fun hc10 => ?_) (fun hc10 => ?_)
    · skip
      replace h7 := ite_t hc10 h7
      obtain ⟨r4, h5, h7⟩ := bind_s h7
      with_unfolding_all refine TX_move rfl ?_
      with_unfolding_all refine TX_guard_yes rfl rfl hc10 ?_
      with_unfolding_all refine TX_cmp rfl rfl rfl ?_
      with_unfolding_all refine TX_guard_yes rfl rfl hc10 ?_
      with_unfolding_all refine TX_move rfl ?_
      with_unfolding_all refine TX_guard_f rfl rfl (fun hc11 => ?_) (fun hc11 => ?_)
      · skip
        replace h5 := or_t hc11 h5
        obtain rfl := some_s h5
        with_unfolding_all refine TX_guard_no_f rfl rfl hc11 ?_
        with_unfolding_all refine TX_guard_yes rfl rfl hc10 ?_
        with_unfolding_all refine TX_pick_t rfl hc11 rfl ?_
        with_unfolding_all refine TX_pick_t rfl hc10 rfl ?_
        obtain rfl := some_s h7
        with_unfolding_all refine TX_assign rfl ?_
        with_unfolding_all refine TX_nil ?_
        with_unfolding_all refine thenQ_normal ?_
        with_unfolding_all refine TE_ret ?_
        obtain rfl := some_s hF
        exact done_any (vs := [.bool (true)]) (.inr rfl) rfl (resR_tmp rfl resR_nil) ⟨rfl, hO0.ext⟩
      · skip
        replace h5 := or_f hc11 h5
        with_unfolding_all refine TX_move rfl ?_
        with_unfolding_all refine TX_guard_yes rfl rfl hc11 ?_
        with_unfolding_all refine TX_cmp rfl rfl rfl ?_
        with_unfolding_all refine TX_guard_yes rfl rfl hc10 ?_
        with_unfolding_all refine TX_pick_f rfl hc11 rfl ?_
        obtain rfl := some_s h5
        with_unfolding_all refine TX_pick_t rfl hc10 rfl ?_
        obtain rfl := some_s h7
        with_unfolding_all refine TX_assign rfl ?_
        with_unfolding_all refine TX_nil ?_
        with_unfolding_all refine thenQ_normal ?_
        with_unfolding_all refine TE_ret ?_
        obtain rfl := some_s hF
        exact done_any (vs := [.bool ((decide (x0_ > 57343)))]) (.inr rfl) rfl (resR_tmp rfl resR_nil) ⟨rfl, hO0.ext⟩
    · skip
      replace h7 := ite_f hc10 h7
      obtain rfl := some_s h7
      with_unfolding_all refine TX_guard_no_t rfl rfl hc10 ?_
      with_unfolding_all refine TX_guard_no_t rfl rfl hc10 ?_
      with_unfolding_all refine TX_guard_un rfl rfl ?_
      with_unfolding_all refine TX_guard_un rfl rfl ?_
      with_unfolding_all refine TX_guard_no_t rfl rfl hc10 ?_
      with_unfolding_all refine TX_pick_f rfl hc10 rfl ?_
      with_unfolding_all refine TX_assign rfl ?_
      with_unfolding_all refine TX_nil ?_
      with_unfolding_all refine thenQ_normal ?_
      with_unfolding_all refine TE_ret ?_
      obtain rfl := some_s hF
      exact done_any (vs := [.bool (false)]) (.inr rfl) rfl (resR_tmp rfl resR_nil) ⟨rfl, hO0.ext⟩
  · skip
    replace h3 := and_f hc9 h3
    obtain rfl := some_s h3
    with_unfolding_all refine TX_guard_no_t rfl rfl hc9 ?_
    with_unfolding_all refine TX_pick_f rfl hc9 rfl ?_
    with_unfolding_all refine TX_move rfl ?_
    replace h7 := ite_f rfl h7
    obtain rfl := some_s h7
    with_unfolding_all refine TX_guard_no_t rfl rfl rfl ?_
    with_unfolding_all refine TX_guard_no_t rfl rfl rfl ?_
    with_unfolding_all refine TX_guard_no_t rfl rfl rfl ?_
    with_unfolding_all refine TX_guard_un rfl rfl ?_
    with_unfolding_all refine TX_guard_un rfl rfl ?_
    with_unfolding_all refine TX_guard_no_t rfl rfl rfl ?_
    with_unfolding_all refine TX_pick_f rfl rfl rfl ?_
    with_unfolding_all refine TX_assign rfl ?_
    with_unfolding_all refine TX_nil ?_
    with_unfolding_all refine thenQ_normal ?_
    with_unfolding_all refine TE_ret ?_
    obtain rfl := some_s hF
    exact done_any (vs := [.bool (false)]) (.inr rfl) rfl (resR_tmp rfl resR_nil) ⟨rfl, hO0.ext⟩
theorem law02_bytes_1_ok {x0_ : Int} {c0_ : Int} {y : Int} (hF : F.law02_bytes_1 x0_ c0_ = some y) {v0_ : AV} {σ : Mem} (h0_ : (eI .i64).rel v0_ x0_) {d0_ : Nat} {w0_ : AV} (k0_ : (eI .i64).rel w0_ c0_) (m0_ : σ[d0_]? = some (.cells w0_.cells)) :
    CallE Try.prog 23 [v0_, .ptr d0_ 0] σ (fun v σ' => eB8.rel v y ∧ Ext σ σ') := by
  unfold F.law02_bytes_1 at hF
  obtain rfl := h0_
  obtain rfl := k0_
  refine CallE_of Try.func23 rfl Try.ntmps23 (by simp) ?_
  have hO0 := Own.start σ
  with_unfolding_all refine TE_seq ?_
  with_unfolding_all refine TE_seqY ?_
  have hM1 := MB_none σ
  with_unfolding_all refine TX_assign rfl ?_
  with_unfolding_all refine TX_nil ?_
  with_unfolding_all refine thenQ_normal ?_
  with_unfolding_all refine TE_seq ?_
  obtain ⟨x2, h3, hF⟩ := bind_s hF
  with_unfolding_all refine TE_seqY ?_
  have hM4 := MB_none σ
  with_unfolding_all refine TX_load_p rfl (MC_none (hO0.get0 m0_ (List.not_mem_nil))) rfl ?_
  with_unfolding_all refine TX_move rfl ?_
  with_unfolding_all refine TX_div rfl rfl (nz_s h3) rfl ?_
  with_unfolding_all refine TX_div rfl rfl (by decide) rfl ?_
  with_unfolding_all refine TX_ari rfl rfl rfl ?_
  with_unfolding_all refine TX_convInt rfl rfl rfl ?_
  with_unfolding_all refine TX_assign rfl ?_
  with_unfolding_all refine TX_nil ?_
  with_unfolding_all refine thenQ_normal ?_
  with_unfolding_all refine TE_ret ?_
  obtain rfl := some_s hF
  exact done_any (vs := [.int .u8 ((IntKind.wrap .u8 (IntKind.wrap .i64 (128 + (Int.tmod (IntKind.wrap .i64 (Int.tdiv c0_ x0_)) 64)))))]) (.inr rfl) rfl (resR_tmp rfl resR_nil) ⟨⟨rfl, (wrap_u8_rng _)⟩, hO0.ext⟩
theorem law02_bytes_ok {x0_ : Int} {y : Str} (hF : F.law02_bytes x0_ = some y) {v0_ : AV} {σ : Mem} (h0_ : (eI .i32).rel v0_ x0_)  :
    CallE Try.prog 17 [v0_] σ (fun v σ' => eS.rel v y ∧ Ext σ σ') := by
  unfold F.law02_bytes at hF
  obtain rfl := h0_
  refine CallE_of Try.func17 rfl Try.ntmps17 (by simp) ?_
  have hO0 := Own.start σ
  with_unfolding_all refine TE_seq ?_
  with_unfolding_all refine TE_seqY ?_
  have hM1 := MB_none σ
  with_unfolding_all refine TX_assign rfl ?_
  with_unfolding_all refine TX_nil ?_
  with_unfolding_all refine thenQ_normal ?_
  with_unfolding_all refine TE_seq ?_
  with_unfolding_all refine TE_seqY ?_
  have hM2 := MB_none σ
  with_unfolding_all refine TX_move rfl ?_
  with_unfolding_all refine TX_convInt rfl rfl rfl ?_
  with_unfolding_all refine TY_alloc hO0 hM2 rfl rfl ?_
  rintro id3 s4 (hO5 : Own σ [] s4 [.obj id3 [.int .i64 (0)]]) hM6
  with_unfolding_all refine TY_store (v := .int .i64 ((IntKind.wrap .i64 x0_))) (vc := [.int .i64 ((IntKind.wrap .i64 x0_))]) hO5 hM6 (MNe.none _) rfl rfl rfl rfl (by with_unfolding_all exact Nat.le_of_ble_eq_true rfl) (ones_cons rfl ones_nil) rfl ?_
  rintro s7 (hO8 : Own σ [] s7 [.obj id3 [.int .i64 ((IntKind.wrap .i64 x0_))]]) hM9
  with_unfolding_all refine TX_nil ?_
  with_unfolding_all refine thenQ_normal ?_
  with_unfolding_all refine TE_seq ?_
  with_unfolding_all refine TE_seqY ?_
  have hM10 := MB_none s7
  with_unfolding_all refine TX_makeFunc rfl rfl ?_
  with_unfolding_all refine TX_assign rfl ?_
  with_unfolding_all refine TX_nil ?_
  with_unfolding_all refine thenQ_normal ?_
  with_unfolding_all refine TE_seq ?_
  with_unfolding_all refine TE_block ?_
  with_unfolding_all refine TE_seq ?_
  with_unfolding_all refine TE_seqY ?_
  have hM11 := MB_none s7
  with_unfolding_all refine TX_load_p rfl (MC_none (hO8.obj 0 rfl)) rfl ?_
  with_unfolding_all refine TX_cmp rfl rfl rfl ?_
  with_unfolding_all refine TX_assign rfl ?_
  with_unfolding_all refine TX_nil ?_
  with_unfolding_all refine thenQ_normal ?_
  with_unfolding_all refine TE_cond rfl (fun hc12 => ?_) (fun hc12 => ?_)
  · skip
    replace hF := ite_t hc12 hF
    with_unfolding_all refine TE_seq ?_
    with_unfolding_all refine TE_seqY ?_
    have hM13 := MB_none s7
    with_unfolding_all refine TX_load_p rfl (MC_none (hO8.obj 0 rfl)) rfl ?_
    with_unfolding_all refine TX_convInt rfl rfl rfl ?_
    have h14 : All2 eY.rel ([.int .u8 ((IntKind.wrap .u8 (IntKind.wrap .i64 x0_)))] : List AV) ([u8 (IntKind.wrap .u8 (IntKind.wrap .i64 x0_))] : Str) := ⟨(eY_u8 (wrap_u8_rng _).1 (wrap_u8_rng _).2), trivial⟩
    with_unfolding_all refine TY_buildSlice rfl rfl rfl rfl rfl h14 rfl (by decide) (by with_unfolding_all exact Nat.le_of_ble_eq_true rfl) ?_
    have h15 : RS eY (.sl [.int .u8 ((IntKind.wrap .u8 (IntKind.wrap .i64 x0_)))] .full) ([u8 (IntKind.wrap .u8 (IntKind.wrap .i64 x0_))] : Str) := RS.of h14
    with_unfolding_all refine TY_conv_text rfl rfl rfl rfl h15 ?_
    with_unfolding_all refine TX_assign rfl ?_
    with_unfolding_all refine TX_nil ?_
    with_unfolding_all refine thenQ_normal ?_
    with_unfolding_all refine TE_ret ?_
    with_unfolding_all refine blockQ_ret ?_
    with_unfolding_all refine thenQ_ret ?_
    obtain rfl := some_s hF
    exact done_any (vs := [.str (bs (([u8 (IntKind.wrap .u8 (IntKind.wrap .i64 x0_))] : Str)))]) (.inr rfl) rfl (resR_tmp rfl resR_nil) ⟨rfl, hO8.ext⟩
  · skip
    replace hF := ite_f hc12 hF
    with_unfolding_all refine TE_seq ?_
    with_unfolding_all refine TE_seqY ?_
    have hM16 := MB_none s7
    with_unfolding_all refine TX_load_p rfl (MC_none (hO8.obj 0 rfl)) rfl ?_
    with_unfolding_all refine TX_cmp rfl rfl rfl ?_
    with_unfolding_all refine TX_assign rfl ?_
    with_unfolding_all refine TX_nil ?_
    with_unfolding_all refine thenQ_normal ?_
    with_unfolding_all refine TE_cond rfl (fun hc17 => ?_) (fun hc17 => ?_)
    · skip
      replace hF := ite_t hc17 hF
      with_unfolding_all refine TE_seq ?_
      obtain ⟨x18, h19, hF⟩ := bind_s hF
      have hB20 : Bs [(id3, [.int .i64 ((IntKind.wrap .i64 x0_))])] s7 := Bs.cons (hO8.obj 0 rfl) (Bs.nil _)
      with_unfolding_all refine TE_drawY [(id3, [.int .i64 ((IntKind.wrap .i64 x0_))])] (by with_unfolding_all rfl) (by kernel_rfl) hB20 ?_
      have hM21 := MB_some hB20
      with_unfolding_all refine TX_load_p rfl (MC_some 0 rfl) rfl ?_
      with_unfolding_all refine TX_div rfl rfl (by decide) rfl ?_
      with_unfolding_all refine TX_ari rfl rfl rfl ?_
      with_unfolding_all refine TX_convInt rfl rfl rfl ?_
      with_unfolding_all refine TX_move rfl ?_
      have hc22 : CallE Try.prog 23 [.int .i64 (1), .ptr id3 0] s7 _ := law02_bytes_1_ok h19 rfl rfl (hO8.obj 0 rfl)
      with_unfolding_all refine TY_call hM21 rfl en23 hc22 ?_
      intro v23 s27 hv24 hX25 hM26
      have hO28 := hO8.ext_call hX25
      obtain ⟨rfl, h29⟩ := hv24
      have h30 : All2 eY.rel ([.int .u8 ((IntKind.wrap .u8 (IntKind.wrap .i64 (192 + (IntKind.wrap .i64 (Int.tdiv (IntKind.wrap .i64 x0_) 64)))))), .int .u8 (x18)] : List AV) ([u8 (IntKind.wrap .u8 (IntKind.wrap .i64 (192 + (IntKind.wrap .i64 (Int.tdiv (IntKind.wrap .i64 x0_) 64))))), u8 x18] : Str) := ⟨(eY_u8 (wrap_u8_rng _).1 (wrap_u8_rng _).2), ⟨(eY_u8 h29.1 h29.2), trivial⟩⟩
      with_unfolding_all refine TY_buildSlice rfl rfl rfl rfl rfl h30 rfl (by decide) (by with_unfolding_all exact Nat.le_of_ble_eq_true rfl) ?_
      have h31 : RS eY (.sl [.int .u8 ((IntKind.wrap .u8 (IntKind.wrap .i64 (192 + (IntKind.wrap .i64 (Int.tdiv (IntKind.wrap .i64 x0_) 64)))))), .int .u8 (x18)] .full) ([u8 (IntKind.wrap .u8 (IntKind.wrap .i64 (192 + (IntKind.wrap .i64 (Int.tdiv (IntKind.wrap .i64 x0_) 64))))), u8 x18] : Str) := RS.of h30
      with_unfolding_all refine TY_conv_text rfl rfl rfl rfl h31 ?_
      with_unfolding_all refine TX_assign rfl ?_
      with_unfolding_all refine TX_nil ?_
      with_unfolding_all refine thenQ_normal ?_
      with_unfolding_all refine TE_ret ?_
      with_unfolding_all refine blockQ_ret ?_
      with_unfolding_all refine thenQ_ret ?_
      obtain rfl := some_s hF
      exact done_any (vs := [.str (bs (([u8 (IntKind.wrap .u8 (IntKind.wrap .i64 (192 + (IntKind.wrap .i64 (Int.tdiv (IntKind.wrap .i64 x0_) 64))))), u8 x18] : Str)))]) (.inr rfl) rfl (resR_tmp rfl resR_nil) ⟨rfl, hO28.ext⟩
    · skip
      replace hF := ite_f hc17 hF
      with_unfolding_all refine TE_seq ?_
      with_unfolding_all refine TE_seqY ?_
      have hM32 := MB_none s7
      with_unfolding_all refine TX_load_p rfl (MC_none (hO8.obj 0 rfl)) rfl ?_
      with_unfolding_all refine TX_cmp rfl rfl rfl ?_
      with_unfolding_all refine TX_assign rfl ?_
      with_unfolding_all refine TX_nil ?_
      with_unfolding_all refine thenQ_normal ?_
      with_unfolding_all refine TE_cond rfl (fun hc33 => ?_) (fun hc33 => ?_)
      · skip
        replace hF := ite_t hc33 hF
        with_unfolding_all refine TE_seq ?_
        obtain ⟨x34, h35, hF⟩ := bind_s hF
        obtain ⟨x36, h37, hF⟩ := bind_s hF
        have hB38 : Bs [(id3, [.int .i64 ((IntKind.wrap .i64 x0_))])] s7 := Bs.cons (hO8.obj 0 rfl) (Bs.nil _)
        with_unfolding_all refine TE_drawY [(id3, [.int .i64 ((IntKind.wrap .i64 x0_))])] (by with_unfolding_all rfl) (by kernel_rfl) hB38 ?_
        have hM39 := MB_some hB38
        with_unfolding_all refine TX_load_p rfl (MC_some 0 rfl) rfl ?_
        with_unfolding_all refine TX_div rfl rfl (by decide) rfl ?_
        with_unfolding_all refine TX_ari rfl rfl rfl ?_
        with_unfolding_all refine TX_convInt rfl rfl rfl ?_
        with_unfolding_all refine TX_move rfl ?_
        have hc40 : CallE Try.prog 23 [.int .i64 (64), .ptr id3 0] s7 _ := law02_bytes_1_ok h35 rfl rfl (hO8.obj 0 rfl)
        with_unfolding_all refine TY_call hM39 rfl en23 hc40 ?_
        intro v41 s45 hv42 hX43 hM44
        have hO46 := hO8.ext_call hX43
        obtain ⟨rfl, h47⟩ := hv42
        with_unfolding_all refine TX_move rfl ?_
        have hc48 : CallE Try.prog 23 [.int .i64 (1), .ptr id3 0] s45 _ := law02_bytes_1_ok h37 rfl rfl (hO46.obj 0 rfl)
        with_unfolding_all refine TY_call hM44 rfl en23 hc48 ?_
        intro v49 s53 hv50 hX51 hM52
        have hO54 := hO46.ext_call hX51
        obtain ⟨rfl, h55⟩ := hv50
        have h56 : All2 eY.rel ([.int .u8 ((IntKind.wrap .u8 (IntKind.wrap .i64 (224 + (IntKind.wrap .i64 (Int.tdiv (IntKind.wrap .i64 x0_) 4096)))))), .int .u8 (x34), .int .u8 (x36)] : List AV) ([u8 (IntKind.wrap .u8 (IntKind.wrap .i64 (224 + (IntKind.wrap .i64 (Int.tdiv (IntKind.wrap .i64 x0_) 4096))))), u8 x34, u8 x36] : Str) := ⟨(eY_u8 (wrap_u8_rng _).1 (wrap_u8_rng _).2), ⟨(eY_u8 h47.1 h47.2), ⟨(eY_u8 h55.1 h55.2), trivial⟩⟩⟩
        with_unfolding_all refine TY_buildSlice rfl rfl rfl rfl rfl h56 rfl (by decide) (by with_unfolding_all exact Nat.le_of_ble_eq_true rfl) ?_
        have h57 : RS eY (.sl [.int .u8 ((IntKind.wrap .u8 (IntKind.wrap .i64 (224 + (IntKind.wrap .i64 (Int.tdiv (IntKind.wrap .i64 x0_) 4096)))))), .int .u8 (x34), .int .u8 (x36)] .full) ([u8 (IntKind.wrap .u8 (IntKind.wrap .i64 (224 + (IntKind.wrap .i64 (Int.tdiv (IntKind.wrap .i64 x0_) 4096))))), u8 x34, u8 x36] : Str) := RS.of h56
        with_unfolding_all refine TY_conv_text rfl rfl rfl rfl h57 ?_
        with_unfolding_all refine TX_assign rfl ?_
        with_unfolding_all refine TX_nil ?_
        with_unfolding_all refine thenQ_normal ?_
        with_unfolding_all refine TE_ret ?_
        with_unfolding_all refine blockQ_ret ?_
        with_unfolding_all refine thenQ_ret ?_
        obtain rfl := some_s hF
        exact done_any (vs := [.str (bs (([u8 (IntKind.wrap .u8 (IntKind.wrap .i64 (224 + (IntKind.wrap .i64 (Int.tdiv (IntKind.wrap .i64 x0_) 4096))))), u8 x34, u8 x36] : Str)))]) (.inr rfl) rfl (resR_tmp rfl resR_nil) ⟨rfl, hO54.ext⟩
      · skip
        replace hF := ite_f hc33 hF
        with_unfolding_all refine TE_skip ?_
        with_unfolding_all refine blockQ_normal ?_
        with_unfolding_all refine thenQ_normal ?_
        with_unfolding_all refine TE_seq ?_
        obtain ⟨x58, h59, hF⟩ := bind_s hF
        obtain ⟨x60, h61, hF⟩ := bind_s hF
        obtain ⟨x62, h63, hF⟩ := bind_s hF
        have hB64 : Bs [(id3, [.int .i64 ((IntKind.wrap .i64 x0_))])] s7 := Bs.cons (hO8.obj 0 rfl) (Bs.nil _)
        with_unfolding_all refine TE_drawY [(id3, [.int .i64 ((IntKind.wrap .i64 x0_))])] (by with_unfolding_all rfl) (by kernel_rfl) hB64 ?_
        have hM65 := MB_some hB64
        with_unfolding_all refine TX_load_p rfl (MC_some 0 rfl) rfl ?_
        with_unfolding_all refine TX_div rfl rfl (by decide) rfl ?_
        with_unfolding_all refine TX_ari rfl rfl rfl ?_
        with_unfolding_all refine TX_convInt rfl rfl rfl ?_
        with_unfolding_all refine TX_move rfl ?_
        have hc66 : CallE Try.prog 23 [.int .i64 (4096), .ptr id3 0] s7 _ := law02_bytes_1_ok h59 rfl rfl (hO8.obj 0 rfl)
        with_unfolding_all refine TY_call hM65 rfl en23 hc66 ?_
        intro v67 s71 hv68 hX69 hM70
        have hO72 := hO8.ext_call hX69
        obtain ⟨rfl, h73⟩ := hv68
        with_unfolding_all refine TX_move rfl ?_
        have hc74 : CallE Try.prog 23 [.int .i64 (64), .ptr id3 0] s71 _ := law02_bytes_1_ok h61 rfl rfl (hO72.obj 0 rfl)
        with_unfolding_all refine TY_call hM70 rfl en23 hc74 ?_
        intro v75 s79 hv76 hX77 hM78
        have hO80 := hO72.ext_call hX77
        obtain ⟨rfl, h81⟩ := hv76
        with_unfolding_all refine TX_move rfl ?_
        have hc82 : CallE Try.prog 23 [.int .i64 (1), .ptr id3 0] s79 _ := law02_bytes_1_ok h63 rfl rfl (hO80.obj 0 rfl)
        with_unfolding_all refine TY_call hM78 rfl en23 hc82 ?_
        intro v83 s87 hv84 hX85 hM86
        have hO88 := hO80.ext_call hX85
        obtain ⟨rfl, h89⟩ := hv84
        have h90 : All2 eY.rel ([.int .u8 ((IntKind.wrap .u8 (IntKind.wrap .i64 (240 + (IntKind.wrap .i64 (Int.tdiv (IntKind.wrap .i64 x0_) 262144)))))), .int .u8 (x58), .int .u8 (x60), .int .u8 (x62)] : List AV) ([u8 (IntKind.wrap .u8 (IntKind.wrap .i64 (240 + (IntKind.wrap .i64 (Int.tdiv (IntKind.wrap .i64 x0_) 262144))))), u8 x58, u8 x60, u8 x62] : Str) := ⟨(eY_u8 (wrap_u8_rng _).1 (wrap_u8_rng _).2), ⟨(eY_u8 h73.1 h73.2), ⟨(eY_u8 h81.1 h81.2), ⟨(eY_u8 h89.1 h89.2), trivial⟩⟩⟩⟩
        with_unfolding_all refine TY_buildSlice rfl rfl rfl rfl rfl h90 rfl (by decide) (by with_unfolding_all exact Nat.le_of_ble_eq_true rfl) ?_
        have h91 : RS eY (.sl [.int .u8 ((IntKind.wrap .u8 (IntKind.wrap .i64 (240 + (IntKind.wrap .i64 (Int.tdiv (IntKind.wrap .i64 x0_) 262144)))))), .int .u8 (x58), .int .u8 (x60), .int .u8 (x62)] .full) ([u8 (IntKind.wrap .u8 (IntKind.wrap .i64 (240 + (IntKind.wrap .i64 (Int.tdiv (IntKind.wrap .i64 x0_) 262144))))), u8 x58, u8 x60, u8 x62] : Str) := RS.of h90
        with_unfolding_all refine TY_conv_text rfl rfl rfl rfl h91 ?_
        with_unfolding_all refine TX_assign rfl ?_
        with_unfolding_all refine TX_nil ?_
        with_unfolding_all refine thenQ_normal ?_
        with_unfolding_all refine TE_ret ?_
        obtain rfl := some_s hF
        exact done_any (vs := [.str (bs (([u8 (IntKind.wrap .u8 (IntKind.wrap .i64 (240 + (IntKind.wrap .i64 (Int.tdiv (IntKind.wrap .i64 x0_) 262144))))), u8 x58, u8 x60, u8 x62] : Str)))]) (.inr rfl) rfl (resR_tmp rfl resR_nil) ⟨rfl, hO88.ext⟩
theorem utf_Right_ok {x0_ : Str} {y : Bool} (hF : F.utf_Right x0_ = some y) {v0_ : AV} {σ : Mem} (h0_ : eS.rel v0_ x0_)  :
    CallE Try.prog 18 [v0_] σ (fun v σ' => eB.rel v y ∧ Ext σ σ') := by
  unfold F.utf_Right at hF
  obtain rfl := h0_
  refine CallE_of Try.func18 rfl Try.ntmps18 (by simp) ?_
  have hO0 := Own.start σ
  with_unfolding_all refine TE_seq ?_
  with_unfolding_all refine TE_seqY ?_
  have hM1 := MB_none σ
  with_unfolding_all refine TX_assign rfl ?_
  with_unfolding_all refine TX_nil ?_
  with_unfolding_all refine thenQ_normal ?_
  with_unfolding_all refine TE_seq ?_
  with_unfolding_all refine TE_block ?_
  obtain ⟨a10, h11, hF⟩ := bind_s hF
  refine TE_iter (f := F.utf_Right_s1 ) (s0 := x0_) (a := a10) (fun (q2 : Str) z => ∃ (s4 : Mem), Own σ [] s4 [] ∧ Le z ⟨fr 17 [(0, .str (bs (q2)))], [], s4⟩) (fun (a : (Unit ⊕ Bool)) e z => (∃ p6 : Unit, a = (.inl p6) ∧ e = .exit 0 ∧ ∃ (s7 : Mem), Own σ [] s7 [] ∧ Le z ⟨fr 17 [], [], s7⟩) ∨ (∃ p9 : Bool, a = (.inr (p9)) ∧ e = .ret ∧ doneQ Try.prog Try.f18 (fun v σ' => eB.rel v p9 ∧ Ext σ σ') .ret z)) h11 ?_ ?_ ?_
  · skip
    exact ⟨σ, (hO0.sub 0 rfl), (Le_fr ⟨rfl, trivial⟩)⟩
  · skip
    clear hF
    rintro q2 zq2 r3 ⟨s4, hO5, hz12⟩ hF
    unfold F.utf_Right_s1 at hF
    refine TE_pre hz12 ?_
    with_unfolding_all refine TE_seq ?_
    with_unfolding_all refine TE_seq ?_
    with_unfolding_all refine TE_seqY ?_
    have hM13 := MB_none s4
    with_unfolding_all refine TX_move rfl ?_
    with_unfolding_all refine TY_scmp (a := q2) (b := []) rfl rfl rfl ?_
    with_unfolding_all refine TX_nil ?_
    with_unfolding_all refine thenQ_normal ?_
    with_unfolding_all refine TE_cond rfl (fun hc14 => ?_) (fun hc14 => ?_)
    · skip
      replace hF := ite_t hc14 hF
      with_unfolding_all refine TE_skip ?_
      with_unfolding_all refine thenQ_normal ?_
      with_unfolding_all refine TE_block ?_
      with_unfolding_all refine TE_seq ?_
      obtain ⟨x15, h16, hF⟩ := bind_s hF
      with_unfolding_all refine TE_seqY ?_
      have hM17 := MB_none s4
      with_unfolding_all refine TX_move rfl ?_
      have hc18 : CallE Try.prog 15 [.str (bs (q2))] s4 _ := utf_Next_ok h16 rfl
      with_unfolding_all refine TY_call hM17 rfl en15 hc18 ?_
      intro v19 s23 hv20 hX21 hM22
      have hO24 := hO5.ext_call hX21
      obtain ⟨v25, v26, rfl, h27, h28⟩ := hv20
      obtain rfl := h27
      obtain rfl := h28
      with_unfolding_all refine TX_move rfl ?_
      with_unfolding_all refine TX_extract rfl rfl ?_
      with_unfolding_all refine TX_extract rfl rfl ?_
      with_unfolding_all refine TX_assign rfl ?_
      with_unfolding_all refine TX_assign rfl ?_
      with_unfolding_all refine TX_nil ?_
      with_unfolding_all refine thenQ_normal ?_
      with_unfolding_all refine TE_seq ?_
      with_unfolding_all refine TE_seq ?_
      with_unfolding_all refine TE_seqY ?_
      have hM29 := MB_none s23
      with_unfolding_all refine TX_move rfl ?_
      with_unfolding_all refine TX_cmp rfl rfl rfl ?_
      with_unfolding_all refine TX_nil ?_
      with_unfolding_all refine thenQ_normal ?_
      with_unfolding_all refine TE_cond rfl (fun hc30 => ?_) (fun hc30 => ?_)
      · skip
        replace hF := ite_t hc30 hF
        with_unfolding_all refine TE_seq ?_
        with_unfolding_all refine TE_seqY ?_
        have hM31 := MB_none s23
        with_unfolding_all refine TX_assign rfl ?_
        with_unfolding_all refine TX_nil ?_
        with_unfolding_all refine thenQ_normal ?_
        with_unfolding_all refine TE_ret ?_
        with_unfolding_all refine thenQ_ret ?_
        with_unfolding_all refine blockQ_ret ?_
        obtain rfl := some_s hF
        exact iterQ_ret (.inr <| ⟨_, rfl, rfl, (done_any (vs := [.bool (false)]) (.inr rfl) rfl (resR_tmp rfl resR_nil) ⟨rfl, hO24.ext⟩)⟩)
      · skip
        replace hF := ite_f hc30 hF
        with_unfolding_all refine TE_skip ?_
        with_unfolding_all refine thenQ_normal ?_
        obtain ⟨x32, h33, hF⟩ := bind_s hF
        with_unfolding_all refine TE_seqY ?_
        have hM34 := MB_none s23
        with_unfolding_all refine TX_move rfl ?_
        with_unfolding_all refine TX_move rfl ?_
        with_unfolding_all refine TY_ssl rfl rfl rfl rfl h33 ?_
        with_unfolding_all refine TX_assign rfl ?_
        with_unfolding_all refine TX_nil ?_
        with_unfolding_all refine blockQ_normal ?_
        obtain rfl := some_s hF
        exact iterQ_again ⟨s23, (hO24.sub 0 rfl), (Le_fr ⟨rfl, trivial⟩)⟩
    · skip
      replace hF := ite_f hc14 hF
      with_unfolding_all refine TE_exit ?_
      with_unfolding_all refine thenQ_exit ?_
      obtain rfl := some_s hF
      exact iterQ_exit (.inl <| ⟨_, rfl, rfl, s4, (hO5.sub 0 rfl), (Le_fr trivial)⟩)
  · skip
    rintro eq2 zq2 (⟨p6, rfl, rfl, s7, hO8, hz35⟩ | ⟨p9, rfl, rfl, hdp9⟩)
    · skip
      try dsimp only at hF
      with_unfolding_all refine blockQ_out ?_
      with_unfolding_all refine thenQ_normal ?_
      refine TE_pre hz35 ?_
      with_unfolding_all refine TE_seq ?_
      with_unfolding_all refine TE_seqY ?_
      have hM36 := MB_none s7
      with_unfolding_all refine TX_assign rfl ?_
      with_unfolding_all refine TX_nil ?_
      with_unfolding_all refine thenQ_normal ?_
      with_unfolding_all refine TE_ret ?_
      obtain rfl := some_s hF
      exact done_any (vs := [.bool (true)]) (.inr rfl) rfl (resR_tmp rfl resR_nil) ⟨rfl, hO8.ext⟩
    · skip
      try dsimp only at hF
      with_unfolding_all refine blockQ_ret ?_
      with_unfolding_all refine thenQ_ret ?_
      obtain rfl := some_s hF
      exact hdp9
end Go.Proofs.Ytkhhmjikohonfaa.K
