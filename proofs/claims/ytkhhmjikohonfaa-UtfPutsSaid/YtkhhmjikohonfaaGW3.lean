/- Walks. Printed. -/
import Derived.Test.YtkhhmjikohonfaaGW2
namespace Go.Proofs.Ytkhhmjikohonfaa.K
open Go Go.RowKit F
set_option maxRecDepth 100000
set_option maxHeartbeats 4000000
set_option linter.unusedVariables false
set_option linter.unusedSimpArgs false
theorem law02_UtfNexts_ok {x0_ : Str} {y : Bool} (hF : F.law02_UtfNexts x0_ = some y) {v0_ : AV} {σ : Mem} (h0_ : eS.rel v0_ x0_)  :
    CallE Try.prog 6 [v0_] σ (fun v σ' => eB.rel v y ∧ Ext σ σ') := by
  unfold F.law02_UtfNexts at hF
  obtain rfl := h0_
  refine CallE_of Try.func6 rfl Try.ntmps6 (by simp) ?_
  have hO0 := Own.start σ
  with_unfolding_all refine TE_seq ?_
  with_unfolding_all refine TE_seqY ?_
  have hM1 := MB_none σ
  with_unfolding_all refine TX_assign rfl ?_
  with_unfolding_all refine TX_nil ?_
  with_unfolding_all refine thenQ_normal ?_
  with_unfolding_all refine TE_seq ?_
  with_unfolding_all refine TE_seq ?_
  obtain ⟨x2, h3, hF⟩ := bind_s hF
  with_unfolding_all refine TE_seqY ?_
  have hM4 := MB_none σ
  have hc5 : CallE Try.prog 11 [] σ _ := law02_head_ok h3 
  with_unfolding_all refine TY_call hM4 rfl en11 hc5 ?_
  intro v6 s10 hv7 hX8 hM9
  have hO11 := hO0.ext_call hX8
  obtain rfl := hv7
  with_unfolding_all refine TX_not rfl ?_
  with_unfolding_all refine TX_nil ?_
  with_unfolding_all refine thenQ_normal ?_
  with_unfolding_all refine TE_cond rfl (fun hc12 => ?_) (fun hc12 => ?_)
  · skip
    replace hF := ite_t hc12 hF
    with_unfolding_all refine TE_seq ?_
    with_unfolding_all refine TE_seqY ?_
    have hM13 := MB_none s10
    with_unfolding_all refine TX_assign rfl ?_
    with_unfolding_all refine TX_nil ?_
    with_unfolding_all refine thenQ_normal ?_
    with_unfolding_all refine TE_ret ?_
    with_unfolding_all refine thenQ_ret ?_
    obtain rfl := some_s hF
    exact done_any (vs := [.bool (false)]) (.inr rfl) rfl (resR_tmp rfl resR_nil) ⟨rfl, hO11.ext⟩
  · skip
    replace hF := ite_f hc12 hF
    with_unfolding_all refine TE_skip ?_
    with_unfolding_all refine thenQ_normal ?_
    with_unfolding_all refine TE_seq ?_
    with_unfolding_all refine TE_seq ?_
    with_unfolding_all refine TE_seqY ?_
    have hM14 := MB_none s10
    with_unfolding_all refine TX_move rfl ?_
    with_unfolding_all refine TY_slen (s := x0_) rfl rfl rfl rfl rfl ?_
    with_unfolding_all refine TX_cmp rfl rfl rfl ?_
    with_unfolding_all refine TX_nil ?_
    with_unfolding_all refine thenQ_normal ?_
    with_unfolding_all refine TE_cond rfl (fun hc15 => ?_) (fun hc15 => ?_)
    · skip
      replace hF := ite_t hc15 hF
      with_unfolding_all refine TE_seq ?_
      with_unfolding_all refine TE_seqY ?_
      have hM16 := MB_none s10
      with_unfolding_all refine TX_assign rfl ?_
      with_unfolding_all refine TX_nil ?_
      with_unfolding_all refine thenQ_normal ?_
      with_unfolding_all refine TE_ret ?_
      with_unfolding_all refine thenQ_ret ?_
      obtain rfl := some_s hF
      exact done_any (vs := [.bool (true)]) (.inr rfl) rfl (resR_tmp rfl resR_nil) ⟨rfl, hO11.ext⟩
    · skip
      replace hF := ite_f hc15 hF
      with_unfolding_all refine TE_skip ?_
      with_unfolding_all refine thenQ_normal ?_
      with_unfolding_all refine TE_seq ?_
      obtain ⟨x17, h18, hF⟩ := bind_s hF
      with_unfolding_all refine TE_seqY ?_
      have hM19 := MB_none s10
      with_unfolding_all refine TX_move rfl ?_
      have hc20 : CallE Try.prog 15 [.str (bs (x0_))] s10 _ := utf_Next_ok h18 rfl
      with_unfolding_all refine TY_call hM19 rfl en15 hc20 ?_
      intro v21 s25 hv22 hX23 hM24
      have hO26 := hO11.ext_call hX23
      obtain ⟨v27, v28, rfl, h29, h30⟩ := hv22
      obtain rfl := h29
      obtain rfl := h30
      with_unfolding_all refine TX_move rfl ?_
      with_unfolding_all refine TX_extract rfl rfl ?_
      with_unfolding_all refine TX_extract rfl rfl ?_
      with_unfolding_all refine TX_assign rfl ?_
      with_unfolding_all refine TX_assign rfl ?_
      with_unfolding_all refine TX_nil ?_
      with_unfolding_all refine thenQ_normal ?_
      with_unfolding_all refine TE_seq ?_
      with_unfolding_all refine TE_seq ?_
      with_unfolding_all refine TE_seqY ?_
      have hM31 := MB_none s25
      with_unfolding_all refine TX_move rfl ?_
      with_unfolding_all refine TX_cmp rfl rfl rfl ?_
      with_unfolding_all refine TX_nil ?_
      with_unfolding_all refine thenQ_normal ?_
      with_unfolding_all refine TE_cond rfl (fun hc32 => ?_) (fun hc32 => ?_)
      · skip
        replace hF := ite_t hc32 hF
        with_unfolding_all refine TE_seq ?_
        obtain ⟨x33, h34, hF⟩ := bind_s hF
        obtain ⟨r35, h36, hF⟩ := bind_s hF
        obtain ⟨r41, h42, hF⟩ := bind_s hF
        have hB43 : Bs [] s25 := Bs.nil _
        with_unfolding_all refine TE_drawY [] (by with_unfolding_all rfl) (by kernel_rfl) hB43 ?_
        have hM44 := MB_some hB43
        with_unfolding_all refine TX_move rfl ?_
        have hc45 : CallE Try.prog 16 [.int .i32 (x17.1)] s25 _ := law02_sign_ok h34 rfl
        with_unfolding_all refine TY_call hM44 rfl en16 hc45 ?_
        intro v46 s50 hv47 hX48 hM49
        have hO51 := hO26.ext_call hX48
        obtain rfl := hv47
        with_unfolding_all refine TX_move rfl ?_
        with_unfolding_all refine TX_guard_t rfl rfl (fun hc52 => ?_) (fun hc52 => ?_)
        · skip
          replace h36 := and_t hc52 h36
          with_unfolding_all refine TX_move rfl ?_
          with_unfolding_all refine TX_guard_yes rfl rfl hc52 ?_
          with_unfolding_all refine TX_move rfl ?_
          with_unfolding_all refine TX_guard_yes rfl rfl hc52 ?_
          with_unfolding_all refine TY_slen (s := x0_) rfl rfl rfl rfl rfl ?_
          with_unfolding_all refine TX_guard_yes rfl rfl hc52 ?_
          with_unfolding_all refine TX_cmp rfl rfl rfl ?_
          with_unfolding_all refine TX_pick_t rfl hc52 rfl ?_
          obtain rfl := some_s h36
          with_unfolding_all refine TX_move rfl ?_
          with_unfolding_all refine TX_guard_t rfl rfl (fun hc53 => ?_) (fun hc53 => ?_)
          · skip
            replace h42 := ite_t hc53 h42
            obtain ⟨x37, h38, h42⟩ := bind_s h42
            obtain ⟨x39, h40, h42⟩ := bind_s h42
            with_unfolding_all refine TX_move rfl ?_
            with_unfolding_all refine TX_guard_yes rfl rfl hc53 ?_
            with_unfolding_all refine TX_move rfl ?_
            with_unfolding_all refine TX_guard_yes rfl rfl hc53 ?_
            with_unfolding_all refine TY_ssl rfl rfl rfl rfl h38 ?_
            with_unfolding_all refine TX_guard_yes rfl rfl hc53 ?_
            with_unfolding_all refine TX_move rfl ?_
            with_unfolding_all refine TX_guard_yes rfl rfl hc53 ?_
            have hc54 : CallE Try.prog 17 [.int .i32 (x17.1)] s50 _ := law02_bytes_ok h40 rfl
            with_unfolding_all refine TY_call hM49 rfl en17 hc54 ?_
            intro v55 s59 hv56 hX57 hM58
            have hO60 := hO51.ext_call hX57
            obtain rfl := hv56
            with_unfolding_all refine TX_guard_yes rfl rfl hc53 ?_
            with_unfolding_all refine TY_scmp (a := x37) (b := x39) rfl rfl rfl ?_
            with_unfolding_all refine TX_pick_t rfl hc53 rfl ?_
            obtain rfl := some_s h42
            with_unfolding_all refine TX_assign rfl ?_
            with_unfolding_all refine TX_nil ?_
            with_unfolding_all refine thenQ_normal ?_
            with_unfolding_all refine TE_ret ?_
            with_unfolding_all refine thenQ_ret ?_
            obtain rfl := some_s hF
            exact done_any (vs := [.bool ((x37 == x39))]) (.inr rfl) rfl (resR_tmp rfl resR_nil) ⟨rfl, hO60.ext⟩
          · skip
            replace h42 := ite_f hc53 h42
            obtain rfl := some_s h42
            with_unfolding_all refine TX_guard_no_t rfl rfl hc53 ?_
            with_unfolding_all refine TX_guard_no_t rfl rfl hc53 ?_
            with_unfolding_all refine TX_guard_no_t rfl rfl hc53 ?_
            with_unfolding_all refine TX_guard_no_t rfl rfl hc53 ?_
            with_unfolding_all refine TX_guard_no_t rfl rfl hc53 ?_
            with_unfolding_all refine TX_pick_f rfl hc53 rfl ?_
            with_unfolding_all refine TX_assign rfl ?_
            with_unfolding_all refine TX_nil ?_
            with_unfolding_all refine thenQ_normal ?_
            with_unfolding_all refine TE_ret ?_
            with_unfolding_all refine thenQ_ret ?_
            obtain rfl := some_s hF
            exact done_any (vs := [.bool (false)]) (.inr rfl) rfl (resR_tmp rfl resR_nil) ⟨rfl, hO51.ext⟩
        · skip
          replace h36 := and_f hc52 h36
          obtain rfl := some_s h36
          with_unfolding_all refine TX_guard_no_t rfl rfl hc52 ?_
          with_unfolding_all refine TX_guard_no_t rfl rfl hc52 ?_
          with_unfolding_all refine TX_guard_no_t rfl rfl hc52 ?_
          with_unfolding_all refine TX_pick_f rfl hc52 rfl ?_
          with_unfolding_all refine TX_move rfl ?_
          replace h42 := ite_f rfl h42
          obtain rfl := some_s h42
          with_unfolding_all refine TX_guard_no_t rfl rfl rfl ?_
          with_unfolding_all refine TX_guard_no_t rfl rfl rfl ?_
          with_unfolding_all refine TX_guard_no_t rfl rfl rfl ?_
          with_unfolding_all refine TX_guard_no_t rfl rfl rfl ?_
          with_unfolding_all refine TX_guard_no_t rfl rfl rfl ?_
          with_unfolding_all refine TX_guard_no_t rfl rfl rfl ?_
          with_unfolding_all refine TX_pick_f rfl rfl rfl ?_
          with_unfolding_all refine TX_assign rfl ?_
          with_unfolding_all refine TX_nil ?_
          with_unfolding_all refine thenQ_normal ?_
          with_unfolding_all refine TE_ret ?_
          with_unfolding_all refine thenQ_ret ?_
          obtain rfl := some_s hF
          exact done_any (vs := [.bool (false)]) (.inr rfl) rfl (resR_tmp rfl resR_nil) ⟨rfl, hO51.ext⟩
      · skip
        replace hF := ite_f hc32 hF
        with_unfolding_all refine TE_skip ?_
        with_unfolding_all refine thenQ_normal ?_
        with_unfolding_all refine TE_seq ?_
        with_unfolding_all refine TE_seq ?_
        with_unfolding_all refine TE_seqY ?_
        have hM61 := MB_none s25
        with_unfolding_all refine TX_move rfl ?_
        with_unfolding_all refine TX_cmp rfl rfl rfl ?_
        with_unfolding_all refine TX_nil ?_
        with_unfolding_all refine thenQ_normal ?_
        with_unfolding_all refine TE_cond rfl (fun hc62 => ?_) (fun hc62 => ?_)
        · skip
          replace hF := ite_t hc62 hF
          with_unfolding_all refine TE_seq ?_
          with_unfolding_all refine TE_seqY ?_
          have hM63 := MB_none s25
          with_unfolding_all refine TX_assign rfl ?_
          with_unfolding_all refine TX_nil ?_
          with_unfolding_all refine thenQ_normal ?_
          with_unfolding_all refine TE_ret ?_
          with_unfolding_all refine thenQ_ret ?_
          obtain rfl := some_s hF
          exact done_any (vs := [.bool (false)]) (.inr rfl) rfl (resR_tmp rfl resR_nil) ⟨rfl, hO26.ext⟩
        · skip
          replace hF := ite_f hc62 hF
          with_unfolding_all refine TE_skip ?_
          with_unfolding_all refine thenQ_normal ?_
          with_unfolding_all refine TE_seq ?_
          with_unfolding_all refine TE_seq ?_
          with_unfolding_all refine TE_seqY ?_
          have hM64 := MB_none s25
          with_unfolding_all refine TX_assign rfl ?_
          with_unfolding_all refine TX_nil ?_
          with_unfolding_all refine thenQ_normal ?_
          with_unfolding_all refine TE_block ?_
          obtain ⟨a73, h74, hF⟩ := bind_s hF
          refine TE_iter (f := F.law02_UtfNexts_s1 x0_) (s0 := 1) (a := a73) (fun (q65 : Int) z => ∃ (s67 : Mem), Own σ [] s67 [] ∧ Le z ⟨fr 92 [(0, .str (bs (x0_))), (5, .int .i64 (q65))], [], s67⟩) (fun (a : (Unit ⊕ Bool)) e z => (∃ p69 : Unit, a = (.inl p69) ∧ e = .exit 0 ∧ ∃ (s70 : Mem), Own σ [] s70 [] ∧ Le z ⟨fr 92 [(0, .str (bs (x0_)))], [], s70⟩) ∨ (∃ p72 : Bool, a = (.inr (p72)) ∧ e = .ret ∧ doneQ Try.prog Try.f6 (fun v σ' => eB.rel v p72 ∧ Ext σ σ') .ret z)) h74 ?_ ?_ ?_
          · skip
            exact ⟨s25, (hO26.sub 0 rfl), (Le_fr ⟨rfl, ⟨rfl, trivial⟩⟩)⟩
          · skip
            clear hF
            rintro q65 zq65 r66 ⟨s67, hO68, hz75⟩ hF
            unfold F.law02_UtfNexts_s1 at hF
            refine TE_pre hz75 ?_
            with_unfolding_all refine TE_seq ?_
            with_unfolding_all refine TE_seq ?_
            obtain ⟨r76, h77, hF⟩ := bind_s hF
            refine TE_cutQ (fun z => ∃ (s79 : Mem), Own σ [] s79 [] ∧ Le z ⟨fr 92 [(0, .str (bs (x0_))), (5, .int .i64 (q65)), (45, .bool (r76))], [], s79⟩) ?_ ?_
            · skip
              with_unfolding_all refine TE_seqY ?_
              have hM82 := MB_none s67
              with_unfolding_all refine TX_move rfl ?_
              with_unfolding_all refine TX_cmp rfl rfl rfl ?_
              with_unfolding_all refine TX_move rfl ?_
              with_unfolding_all refine TX_guard_t rfl rfl (fun hc83 => ?_) (fun hc83 => ?_)
              · skip
                replace h77 := and_t hc83 h77
                with_unfolding_all refine TX_move rfl ?_
                with_unfolding_all refine TX_guard_yes rfl rfl hc83 ?_
                with_unfolding_all refine TX_move rfl ?_
                with_unfolding_all refine TX_guard_yes rfl rfl hc83 ?_
                with_unfolding_all refine TY_slen (s := x0_) rfl rfl rfl rfl rfl ?_
                with_unfolding_all refine TX_guard_yes rfl rfl hc83 ?_
                with_unfolding_all refine TX_cmp rfl rfl rfl ?_
                with_unfolding_all refine TX_pick_t rfl hc83 rfl ?_
                obtain rfl := some_s h77
                with_unfolding_all refine TX_nil ?_
                exact joinQ_normal ⟨s67, (hO68.sub 0 rfl), (Le_fr ⟨rfl, ⟨rfl, ⟨rfl, trivial⟩⟩⟩)⟩
              · skip
                replace h77 := and_f hc83 h77
                obtain rfl := some_s h77
                with_unfolding_all refine TX_guard_no_t rfl rfl hc83 ?_
                with_unfolding_all refine TX_guard_no_t rfl rfl hc83 ?_
                with_unfolding_all refine TX_guard_no_t rfl rfl hc83 ?_
                with_unfolding_all refine TX_pick_f rfl hc83 rfl ?_
                with_unfolding_all refine TX_nil ?_
                exact joinQ_normal ⟨s67, (hO68.sub 0 rfl), (Le_fr ⟨rfl, ⟨rfl, ⟨rfl, trivial⟩⟩⟩)⟩
            · skip
              rintro zj78 ⟨s79, hO80, hz81⟩
              with_unfolding_all refine thenQ_normal ?_
              refine TE_pre hz81 ?_
              with_unfolding_all refine TE_cond rfl (fun hc84 => ?_) (fun hc84 => ?_)
              · skip
                replace hF := ite_t hc84 hF
                with_unfolding_all refine TE_skip ?_
                with_unfolding_all refine thenQ_normal ?_
                with_unfolding_all refine TE_seq ?_
                with_unfolding_all refine TE_block ?_
                with_unfolding_all refine TE_seq ?_
                obtain ⟨x85, h86, hF⟩ := bind_s hF
                with_unfolding_all refine TE_seqY ?_
                have hM87 := MB_none s79
                with_unfolding_all refine TX_move rfl ?_
                with_unfolding_all refine TY_sidx rfl rfl rfl h86 ?_
                with_unfolding_all refine TX_convInt rfl rfl rfl ?_
                with_unfolding_all refine TX_assign rfl ?_
                with_unfolding_all refine TX_nil ?_
                with_unfolding_all refine thenQ_normal ?_
                with_unfolding_all refine TE_seq ?_
                with_unfolding_all refine TE_seq ?_
                with_unfolding_all refine TE_seqY ?_
                have hM88 := MB_none s79
                with_unfolding_all refine TX_move rfl ?_
                with_unfolding_all refine TX_cmp rfl rfl rfl ?_
                with_unfolding_all refine TX_nil ?_
                with_unfolding_all refine thenQ_normal ?_
                obtain ⟨j89, h93, hF⟩ := bind_s hF
                refine TE_cutQ (fun z => ∃ (s90 : Mem), Own σ [] s90 [] ∧ Le z ⟨fr 92 [(0, .str (bs (x0_))), (5, .int .i64 (q65)), (6, .int .i64 (j89))], [], s90⟩) ?_ ?_
                · skip
                  replace hF := h93
                  with_unfolding_all refine TE_cond rfl (fun hc94 => ?_) (fun hc94 => ?_)
                  · skip
                    replace hF := ite_t hc94 hF
                    obtain ⟨x95, h96, hF⟩ := bind_s hF
                    obtain ⟨x97, h98, hF⟩ := bind_s hF
                    with_unfolding_all refine TE_seqY ?_
                    have hM99 := MB_none s79
                    with_unfolding_all refine TX_move rfl ?_
                    with_unfolding_all refine TY_sidx rfl rfl rfl h96 ?_
                    with_unfolding_all refine TX_convInt rfl rfl rfl ?_
                    with_unfolding_all refine TX_move rfl ?_
                    with_unfolding_all refine TX_convInt rfl rfl rfl ?_
                    with_unfolding_all refine TX_sh rfl rfl (nn_s h98) rfl ?_
                    with_unfolding_all refine TX_bit rfl rfl rfl ?_
                    with_unfolding_all refine TX_assign rfl ?_
                    with_unfolding_all refine TX_nil ?_
                    obtain rfl := some_s hF
                    exact joinQ_normal ⟨s79, (hO80.sub 0 rfl), (Le_fr ⟨rfl, ⟨rfl, ⟨rfl, trivial⟩⟩⟩)⟩
                  · skip
                    replace hF := ite_f hc94 hF
                    with_unfolding_all refine TE_skip ?_
                    obtain rfl := some_s hF
                    exact joinQ_normal ⟨s79, (hO80.sub 0 rfl), (Le_fr ⟨rfl, ⟨rfl, ⟨rfl, trivial⟩⟩⟩)⟩
                · skip
                  rintro zj89 ⟨s90, hO91, hz92⟩
                  with_unfolding_all refine thenQ_normal ?_
                  refine TE_pre hz92 ?_
                  with_unfolding_all refine TE_seq ?_
                  with_unfolding_all refine TE_seq ?_
                  with_unfolding_all refine TE_seqY ?_
                  have hM100 := MB_none s90
                  with_unfolding_all refine TX_assign rfl ?_
                  with_unfolding_all refine TX_nil ?_
                  with_unfolding_all refine thenQ_normal ?_
                  with_unfolding_all refine TE_block ?_
                  obtain ⟨p105, h109, hF⟩ := bind_s hF
                  refine TE_iter (f := F.law02_UtfNexts_s2 x0_ q65) (s0 := (j89, 1)) (a := p105) (fun (q101 : (Int × Int)) z => ∃ (s103 : Mem), Own σ [] s103 [] ∧ Le z ⟨fr 92 [(0, .str (bs (x0_))), (5, .int .i64 (q65)), (6, .int .i64 (q101.1)), (7, .int .i64 (q101.2))], [], s103⟩) (fun (p105 : Int) e z => (e = .exit 2 ∧ ∃ (s106 : Mem), Own σ [] s106 [] ∧ Le z ⟨fr 92 [(0, .str (bs (x0_))), (5, .int .i64 (q65)), (6, .int .i64 (p105))], [], s106⟩)) h109 ?_ ?_ ?_
                  · skip
                    exact ⟨s90, (hO91.sub 0 rfl), (Le_fr ⟨rfl, ⟨rfl, ⟨rfl, ⟨rfl, trivial⟩⟩⟩⟩)⟩
                  · skip
                    clear hF
                    rintro q101 zq101 r102 ⟨s103, hO104, hz110⟩ hF
                    unfold F.law02_UtfNexts_s2 at hF
                    refine TE_pre hz110 ?_
                    with_unfolding_all refine TE_seq ?_
                    with_unfolding_all refine TE_seq ?_
                    with_unfolding_all refine TE_seqY ?_
                    have hM111 := MB_none s103
                    with_unfolding_all refine TX_move rfl ?_
                    with_unfolding_all refine TX_move rfl ?_
                    with_unfolding_all refine TX_cmp rfl rfl rfl ?_
                    with_unfolding_all refine TX_nil ?_
                    with_unfolding_all refine thenQ_normal ?_
                    with_unfolding_all refine TE_cond rfl (fun hc112 => ?_) (fun hc112 => ?_)
                    · skip
                      replace hF := ite_t hc112 hF
                      with_unfolding_all refine TE_skip ?_
                      with_unfolding_all refine thenQ_normal ?_
                      with_unfolding_all refine TE_seq ?_
                      with_unfolding_all refine TE_block ?_
                      obtain ⟨x113, h114, hF⟩ := bind_s hF
                      with_unfolding_all refine TE_seqY ?_
                      have hM115 := MB_none s103
                      with_unfolding_all refine TX_move rfl ?_
                      with_unfolding_all refine TX_ari rfl rfl rfl ?_
                      with_unfolding_all refine TX_move rfl ?_
                      with_unfolding_all refine TX_move rfl ?_
                      with_unfolding_all refine TY_sidx rfl rfl rfl h114 ?_
                      with_unfolding_all refine TX_convInt rfl rfl rfl ?_
                      with_unfolding_all refine TX_div rfl rfl (by decide) rfl ?_
                      with_unfolding_all refine TX_ari rfl rfl rfl ?_
                      with_unfolding_all refine TX_assign rfl ?_
                      with_unfolding_all refine TX_nil ?_
                      with_unfolding_all refine blockQ_normal ?_
                      with_unfolding_all refine thenQ_normal ?_
                      with_unfolding_all refine TE_seqY ?_
                      have hM116 := MB_none s103
                      with_unfolding_all refine TX_move rfl ?_
                      with_unfolding_all refine TX_ari rfl rfl rfl ?_
                      with_unfolding_all refine TX_assign rfl ?_
                      with_unfolding_all refine TX_nil ?_
                      obtain rfl := some_s hF
                      exact iterQ_again ⟨s103, (hO104.sub 0 rfl), (Le_fr ⟨rfl, ⟨rfl, ⟨rfl, ⟨rfl, trivial⟩⟩⟩⟩)⟩
                    · skip
                      replace hF := ite_f hc112 hF
                      with_unfolding_all refine TE_exit ?_
                      with_unfolding_all refine thenQ_exit ?_
                      obtain rfl := some_s hF
                      exact iterQ_exit (⟨rfl, s103, (hO104.sub 0 rfl), (Le_fr ⟨rfl, ⟨rfl, ⟨rfl, trivial⟩⟩⟩)⟩)
                  · skip
                    rintro eq101 zq101 (⟨rfl, s106, hO107, hz117⟩)
                    with_unfolding_all refine blockQ_out ?_
                    with_unfolding_all refine thenQ_normal ?_
                    refine TE_pre hz117 ?_
                    with_unfolding_all refine TE_seq ?_
                    obtain ⟨x118, h119, hF⟩ := bind_s hF
                    obtain ⟨r124, h125, hF⟩ := bind_s hF
                    refine TE_cutQ (fun z => ∃ (s127 : Mem), Own σ [] s127 [] ∧ Le z ⟨fr 92 [(0, .str (bs (x0_))), (5, .int .i64 (q65)), (84, .bool (r124))], [], s127⟩) ?_ ?_
                    · skip
                      have hB130 : Bs [] s106 := Bs.nil _
                      with_unfolding_all refine TE_drawY [] (by with_unfolding_all rfl) (by kernel_rfl) hB130 ?_
                      have hM131 := MB_some hB130
                      with_unfolding_all refine TX_move rfl ?_
                      with_unfolding_all refine TX_convInt rfl rfl rfl ?_
                      have hc132 : CallE Try.prog 16 [.int .i32 ((IntKind.wrap .i32 p105))] s106 _ := law02_sign_ok h119 rfl
                      with_unfolding_all refine TY_call hM131 rfl en16 hc132 ?_
                      intro v133 s137 hv134 hX135 hM136
                      have hO138 := hO107.ext_call hX135
                      obtain rfl := hv134
                      with_unfolding_all refine TX_move rfl ?_
                      with_unfolding_all refine TX_guard_t rfl rfl (fun hc139 => ?_) (fun hc139 => ?_)
                      · skip
                        replace h125 := ite_t hc139 h125
                        obtain ⟨x120, h121, h125⟩ := bind_s h125
                        obtain ⟨x122, h123, h125⟩ := bind_s h125
                        with_unfolding_all refine TX_move rfl ?_
                        with_unfolding_all refine TX_guard_yes rfl rfl hc139 ?_
                        with_unfolding_all refine TX_convInt rfl rfl rfl ?_
                        with_unfolding_all refine TX_guard_yes rfl rfl hc139 ?_
                        have hc140 : CallE Try.prog 17 [.int .i32 ((IntKind.wrap .i32 p105))] s137 _ := law02_bytes_ok h121 rfl
                        with_unfolding_all refine TY_call hM136 rfl en17 hc140 ?_
                        intro v141 s145 hv142 hX143 hM144
                        have hO146 := hO138.ext_call hX143
                        obtain rfl := hv142
                        with_unfolding_all refine TX_guard_yes rfl rfl hc139 ?_
                        with_unfolding_all refine TX_move rfl ?_
                        with_unfolding_all refine TX_guard_yes rfl rfl hc139 ?_
                        with_unfolding_all refine TX_move rfl ?_
                        with_unfolding_all refine TX_guard_yes rfl rfl hc139 ?_
                        with_unfolding_all refine TY_ssl rfl rfl rfl rfl h123 ?_
                        with_unfolding_all refine TX_guard_yes rfl rfl hc139 ?_
                        with_unfolding_all refine TY_scmp (a := x120) (b := x122) rfl rfl rfl ?_
                        with_unfolding_all refine TX_pick_t rfl hc139 rfl ?_
                        obtain rfl := some_s h125
                        with_unfolding_all refine TX_nil ?_
                        exact joinQ_normal ⟨s145, (hO146.sub 0 rfl), (Le_fr ⟨rfl, ⟨rfl, ⟨rfl, trivial⟩⟩⟩)⟩
                      · skip
                        replace h125 := ite_f hc139 h125
                        obtain rfl := some_s h125
                        with_unfolding_all refine TX_guard_no_t rfl rfl hc139 ?_
                        with_unfolding_all refine TX_guard_no_t rfl rfl hc139 ?_
                        with_unfolding_all refine TX_guard_no_t rfl rfl hc139 ?_
                        with_unfolding_all refine TX_guard_no_t rfl rfl hc139 ?_
                        with_unfolding_all refine TX_guard_no_t rfl rfl hc139 ?_
                        with_unfolding_all refine TX_guard_no_t rfl rfl hc139 ?_
                        with_unfolding_all refine TX_pick_f rfl hc139 rfl ?_
                        with_unfolding_all refine TX_nil ?_
                        exact joinQ_normal ⟨s137, (hO138.sub 0 rfl), (Le_fr ⟨rfl, ⟨rfl, ⟨rfl, trivial⟩⟩⟩)⟩
                    · skip
                      rintro zj126 ⟨s127, hO128, hz129⟩
                      with_unfolding_all refine thenQ_normal ?_
                      refine TE_pre hz129 ?_
                      with_unfolding_all refine TE_cond rfl (fun hc147 => ?_) (fun hc147 => ?_)
                      · skip
                        replace hF := ite_t hc147 hF
                        with_unfolding_all refine TE_seq ?_
                        with_unfolding_all refine TE_seqY ?_
                        have hM148 := MB_none s127
                        with_unfolding_all refine TX_assign rfl ?_
                        with_unfolding_all refine TX_nil ?_
                        with_unfolding_all refine thenQ_normal ?_
                        with_unfolding_all refine TE_ret ?_
                        with_unfolding_all refine blockQ_ret ?_
                        with_unfolding_all refine thenQ_ret ?_
                        obtain rfl := some_s hF
                        exact iterQ_ret (.inr <| ⟨_, rfl, rfl, (done_any (vs := [.bool (false)]) (.inr rfl) rfl (resR_tmp rfl resR_nil) ⟨rfl, hO128.ext⟩)⟩)
                      · skip
                        replace hF := ite_f hc147 hF
                        with_unfolding_all refine TE_skip ?_
                        with_unfolding_all refine blockQ_normal ?_
                        with_unfolding_all refine thenQ_normal ?_
                        with_unfolding_all refine TE_seqY ?_
                        have hM149 := MB_none s127
                        with_unfolding_all refine TX_move rfl ?_
                        with_unfolding_all refine TX_ari rfl rfl rfl ?_
                        with_unfolding_all refine TX_assign rfl ?_
                        with_unfolding_all refine TX_nil ?_
                        obtain rfl := some_s hF
                        exact iterQ_again ⟨s127, (hO128.sub 0 rfl), (Le_fr ⟨rfl, ⟨rfl, trivial⟩⟩)⟩
              · skip
                replace hF := ite_f hc84 hF
                with_unfolding_all refine TE_exit ?_
                with_unfolding_all refine thenQ_exit ?_
                obtain rfl := some_s hF
                exact iterQ_exit (.inl <| ⟨_, rfl, rfl, s79, (hO80.sub 0 rfl), (Le_fr ⟨rfl, trivial⟩)⟩)
          · skip
            rintro eq65 zq65 (⟨p69, rfl, rfl, s70, hO71, hz150⟩ | ⟨p72, rfl, rfl, hdp72⟩)
            · skip
              try dsimp only at hF
              with_unfolding_all refine blockQ_out ?_
              with_unfolding_all refine thenQ_normal ?_
              refine TE_pre hz150 ?_
              with_unfolding_all refine TE_seq ?_
              obtain ⟨x151, h152, hF⟩ := bind_s hF
              obtain ⟨r153, h154, hF⟩ := bind_s hF
              with_unfolding_all refine TE_seqY ?_
              have hM155 := MB_none s70
              with_unfolding_all refine TX_move rfl ?_
              have hc156 : CallE Try.prog 18 [.str (bs (x0_))] s70 _ := utf_Right_ok h152 rfl
              with_unfolding_all refine TY_call hM155 rfl en18 hc156 ?_
              intro v157 s161 hv158 hX159 hM160
              have hO162 := hO71.ext_call hX159
              obtain rfl := hv158
              with_unfolding_all refine TX_not rfl ?_
              with_unfolding_all refine TX_move rfl ?_
              with_unfolding_all refine TX_guard_f rfl rfl (fun hc163 => ?_) (fun hc163 => ?_)
              · skip
                replace h154 := or_t hc163 h154
                obtain rfl := some_s h154
                with_unfolding_all refine TX_guard_no_f rfl rfl hc163 ?_
                with_unfolding_all refine TX_pick_t rfl hc163 rfl ?_
                with_unfolding_all refine TX_assign rfl ?_
                with_unfolding_all refine TX_nil ?_
                with_unfolding_all refine thenQ_normal ?_
                with_unfolding_all refine TE_ret ?_
                obtain rfl := some_s hF
                exact done_any (vs := [.bool (true)]) (.inr rfl) rfl (resR_tmp rfl resR_nil) ⟨rfl, hO162.ext⟩
              · skip
                replace h154 := or_f hc163 h154
                with_unfolding_all refine TX_move rfl ?_
                with_unfolding_all refine TX_guard_yes rfl rfl hc163 ?_
                with_unfolding_all refine TY_scmp (a := x0_) (b := []) rfl rfl rfl ?_
                with_unfolding_all refine TX_pick_f rfl hc163 rfl ?_
                obtain rfl := some_s h154
                with_unfolding_all refine TX_assign rfl ?_
                with_unfolding_all refine TX_nil ?_
                with_unfolding_all refine thenQ_normal ?_
                with_unfolding_all refine TE_ret ?_
                obtain rfl := some_s hF
                exact done_any (vs := [.bool ((x0_ == []))]) (.inr rfl) rfl (resR_tmp rfl resR_nil) ⟨rfl, hO162.ext⟩
            · skip
              try dsimp only at hF
              with_unfolding_all refine blockQ_ret ?_
              with_unfolding_all refine thenQ_ret ?_
              obtain rfl := some_s hF
              exact hdp72
theorem utf_Put_ok {x0_ : Str} {x1_ : Int} {y : Str} (hF : F.utf_Put x0_ x1_ = some y) {v0_ : AV} {v1_ : AV} {σ : Mem} (h0_ : (RS eY) v0_ x0_) (h1_ : (eI .i32).rel v1_ x1_) (hb0_ : Res.ok σ (.buf v0_))  :
    CallE Try.prog 19 [v0_, v1_] σ (fun v σ' => (RS eY) v y ∧ Own σ (idsL [.buf v0_]) σ' [.buf v]) := by
  unfold F.utf_Put at hF
  obtain rfl := h1_
  refine CallE_of Try.func19 rfl Try.ntmps19 (by simp) ?_
  have hO0 := Own.startB hb0_
  with_unfolding_all refine TE_seq ?_
  with_unfolding_all refine TE_seqY ?_
  have hM1 := MB_none σ
  with_unfolding_all refine TX_assign rfl ?_
  with_unfolding_all refine TX_nil ?_
  with_unfolding_all refine thenQ_normal ?_
  with_unfolding_all refine TE_seq ?_
  with_unfolding_all refine TE_block ?_
  with_unfolding_all refine TE_seq ?_
  obtain ⟨r2, h3, hF⟩ := bind_s hF
  obtain ⟨r6, h7, hF⟩ := bind_s hF
  refine TE_cutQ (fun z => ∃ (s9 : Mem), Own σ (idsL [.buf v0_]) s9 [.buf v0_] ∧ Le z ⟨fr 83 [(0, v0_), (1, .int .i32 (x1_)), (5, .bool (r6))], [], s9⟩) ?_ ?_
  · skip
    with_unfolding_all refine TE_seqY ?_
    have hM12 := MB_none σ
    with_unfolding_all refine TX_move rfl ?_
    with_unfolding_all refine TX_cmp rfl rfl rfl ?_
    with_unfolding_all refine TX_move rfl ?_
    with_unfolding_all refine TX_guard_f rfl rfl (fun hc13 => ?_) (fun hc13 => ?_)
    · skip
      replace h3 := or_t hc13 h3
      obtain rfl := some_s h3
      with_unfolding_all refine TX_guard_no_f rfl rfl hc13 ?_
      with_unfolding_all refine TX_pick_t rfl hc13 rfl ?_
      with_unfolding_all refine TX_move rfl ?_
      replace h7 := ite_t rfl h7
      obtain rfl := some_s h7
      with_unfolding_all refine TX_guard_no_f rfl rfl rfl ?_
      with_unfolding_all refine TX_guard_no_f rfl rfl rfl ?_
      with_unfolding_all refine TX_guard_no_f rfl rfl rfl ?_
      with_unfolding_all refine TX_guard_un rfl rfl ?_
      with_unfolding_all refine TX_guard_un rfl rfl ?_
      with_unfolding_all refine TX_guard_no_f rfl rfl rfl ?_
      with_unfolding_all refine TX_pick_t rfl rfl rfl ?_
      with_unfolding_all refine TX_assign rfl ?_
      with_unfolding_all refine TX_nil ?_
      exact joinQ_normal ⟨σ, (hO0.sub 1 rfl), (Le_fr ⟨rfl, ⟨rfl, ⟨rfl, trivial⟩⟩⟩)⟩
    · skip
      replace h3 := or_f hc13 h3
      with_unfolding_all refine TX_move rfl ?_
      with_unfolding_all refine TX_guard_yes rfl rfl hc13 ?_
      with_unfolding_all refine TX_cmp rfl rfl rfl ?_
      with_unfolding_all refine TX_pick_f rfl hc13 rfl ?_
      obtain rfl := some_s h3
      with_unfolding_all refine TX_move rfl ?_
      with_unfolding_all refine TX_guard_f rfl rfl (fun hc14 => ?_) (fun hc14 => ?_)
      · skip
        replace h7 := ite_t hc14 h7
        obtain rfl := some_s h7
        with_unfolding_all refine TX_guard_no_f rfl rfl hc14 ?_
        with_unfolding_all refine TX_guard_no_f rfl rfl hc14 ?_
        with_unfolding_all refine TX_guard_un rfl rfl ?_
        with_unfolding_all refine TX_guard_un rfl rfl ?_
        with_unfolding_all refine TX_guard_no_f rfl rfl hc14 ?_
        with_unfolding_all refine TX_pick_t rfl hc14 rfl ?_
        with_unfolding_all refine TX_assign rfl ?_
        with_unfolding_all refine TX_nil ?_
        exact joinQ_normal ⟨σ, (hO0.sub 1 rfl), (Le_fr ⟨rfl, ⟨rfl, ⟨rfl, trivial⟩⟩⟩)⟩
      · skip
        replace h7 := ite_f hc14 h7
        obtain ⟨r4, h5, h7⟩ := bind_s h7
        with_unfolding_all refine TX_move rfl ?_
        with_unfolding_all refine TX_guard_yes rfl rfl hc14 ?_
        with_unfolding_all refine TX_cmp rfl rfl rfl ?_
        with_unfolding_all refine TX_guard_yes rfl rfl hc14 ?_
        with_unfolding_all refine TX_move rfl ?_
        with_unfolding_all refine TX_guard_t rfl rfl (fun hc15 => ?_) (fun hc15 => ?_)
        · skip
          replace h5 := and_t hc15 h5
          with_unfolding_all refine TX_move rfl ?_
          with_unfolding_all refine TX_guard_yes rfl rfl hc15 ?_
          with_unfolding_all refine TX_cmp rfl rfl rfl ?_
          with_unfolding_all refine TX_guard_yes rfl rfl hc14 ?_
          with_unfolding_all refine TX_pick_t rfl hc15 rfl ?_
          obtain rfl := some_s h5
          with_unfolding_all refine TX_pick_f rfl hc14 rfl ?_
          obtain rfl := some_s h7
          with_unfolding_all refine TX_assign rfl ?_
          with_unfolding_all refine TX_nil ?_
          exact joinQ_normal ⟨σ, (hO0.sub 1 rfl), (Le_fr ⟨rfl, ⟨rfl, ⟨rfl, trivial⟩⟩⟩)⟩
        · skip
          replace h5 := and_f hc15 h5
          obtain rfl := some_s h5
          with_unfolding_all refine TX_guard_no_t rfl rfl hc15 ?_
          with_unfolding_all refine TX_guard_yes rfl rfl hc14 ?_
          with_unfolding_all refine TX_pick_f rfl hc15 rfl ?_
          with_unfolding_all refine TX_pick_f rfl hc14 rfl ?_
          obtain rfl := some_s h7
          with_unfolding_all refine TX_assign rfl ?_
          with_unfolding_all refine TX_nil ?_
          exact joinQ_normal ⟨σ, (hO0.sub 1 rfl), (Le_fr ⟨rfl, ⟨rfl, ⟨rfl, trivial⟩⟩⟩)⟩
  · skip
    rintro zj8 ⟨s9, hO10, hz11⟩
    with_unfolding_all refine thenQ_normal ?_
    refine TE_pre hz11 ?_
    with_unfolding_all refine TE_cond rfl (fun hc16 => ?_) (fun hc16 => ?_)
    · skip
      replace hF := ite_t hc16 hF
      with_unfolding_all refine TE_seq ?_
      with_unfolding_all refine TE_seqY ?_
      have hM17 := MB_none s9
      with_unfolding_all refine TX_move rfl ?_
      with_unfolding_all refine TX_assign rfl ?_
      with_unfolding_all refine TX_nil ?_
      with_unfolding_all refine thenQ_normal ?_
      with_unfolding_all refine TE_ret ?_
      with_unfolding_all refine blockQ_ret ?_
      with_unfolding_all refine thenQ_ret ?_
      obtain rfl := some_s hF
      exact done_any (vs := [v0_]) (.inr rfl) rfl (resR_tmp rfl resR_nil) ⟨h0_, hO10.sub 1 rfl⟩
    · skip
      replace hF := ite_f hc16 hF
      with_unfolding_all refine TE_seq ?_
      with_unfolding_all refine TE_seqY ?_
      have hM18 := MB_none s9
      with_unfolding_all refine TX_move rfl ?_
      with_unfolding_all refine TX_cmp rfl rfl rfl ?_
      with_unfolding_all refine TX_assign rfl ?_
      with_unfolding_all refine TX_nil ?_
      with_unfolding_all refine thenQ_normal ?_
      with_unfolding_all refine TE_cond rfl (fun hc19 => ?_) (fun hc19 => ?_)
      · skip
        replace hF := ite_t hc19 hF
        with_unfolding_all refine TE_seq ?_
        obtain ⟨x20, h21, hF⟩ := bind_s hF
        with_unfolding_all refine TE_seqY ?_
        have hM22 := MB_none s9
        with_unfolding_all refine TX_move rfl ?_
        with_unfolding_all refine TX_move rfl ?_
        with_unfolding_all refine TX_convInt rfl rfl rfl ?_
        have h23 : All2 eY.rel ([.int .u8 ((IntKind.wrap .u8 x1_))] : List AV) ([u8 (IntKind.wrap .u8 x1_)] : Str) := ⟨(eY_u8 (wrap_u8_rng _).1 (wrap_u8_rng _).2), trivial⟩
        with_unfolding_all refine TY_buildSlice rfl rfl rfl rfl rfl h23 rfl (by decide) (by with_unfolding_all exact Nat.le_of_ble_eq_true rfl) ?_
        have h24 : RS eY (.sl [.int .u8 ((IntKind.wrap .u8 x1_))] .full) ([u8 (IntKind.wrap .u8 x1_)] : Str) := RS.of h23
        with_unfolding_all refine TY_append appT30_30 hO10 hM22 rfl rfl rfl rfl h0_ rfl h24 h21 ?_
        rintro u25 s27 (h26 : RS eY u25 x20) (hO28 : Own σ (idsL [.buf v0_]) s27 [.buf u25]) hM29
        with_unfolding_all refine TX_assign rfl ?_
        with_unfolding_all refine TX_nil ?_
        with_unfolding_all refine thenQ_normal ?_
        with_unfolding_all refine TE_ret ?_
        with_unfolding_all refine blockQ_ret ?_
        with_unfolding_all refine thenQ_ret ?_
        obtain rfl := some_s hF
        exact done_any (vs := [u25]) (.inr rfl) rfl (resR_tmp rfl resR_nil) ⟨h26, hO28.sub 1 rfl⟩
      · skip
        replace hF := ite_f hc19 hF
        with_unfolding_all refine TE_seq ?_
        with_unfolding_all refine TE_seqY ?_
        have hM30 := MB_none s9
        with_unfolding_all refine TX_move rfl ?_
        with_unfolding_all refine TX_cmp rfl rfl rfl ?_
        with_unfolding_all refine TX_assign rfl ?_
        with_unfolding_all refine TX_nil ?_
        with_unfolding_all refine thenQ_normal ?_
        with_unfolding_all refine TE_cond rfl (fun hc31 => ?_) (fun hc31 => ?_)
        · skip
          replace hF := ite_t hc31 hF
          with_unfolding_all refine TE_seq ?_
          obtain ⟨x32, h33, hF⟩ := bind_s hF
          with_unfolding_all refine TE_seqY ?_
          have hM34 := MB_none s9
          with_unfolding_all refine TX_move rfl ?_
          with_unfolding_all refine TX_move rfl ?_
          with_unfolding_all refine TX_sh rfl rfl (by decide) rfl ?_
          with_unfolding_all refine TX_convInt rfl rfl rfl ?_
          with_unfolding_all refine TX_bit rfl rfl rfl ?_
          with_unfolding_all refine TX_move rfl ?_
          with_unfolding_all refine TX_bit rfl rfl rfl ?_
          with_unfolding_all refine TX_convInt rfl rfl rfl ?_
          with_unfolding_all refine TX_bit rfl rfl rfl ?_
          have h35 : All2 eY.rel ([.int .u8 ((bor .u8 192 (IntKind.wrap .u8 (bshr .i32 x1_ 6)))), .int .u8 ((bor .u8 128 (IntKind.wrap .u8 (band .i32 x1_ 63))))] : List AV) ([u8 (bor .u8 192 (IntKind.wrap .u8 (bshr .i32 x1_ 6))), u8 (bor .u8 128 (IntKind.wrap .u8 (band .i32 x1_ 63)))] : Str) := ⟨(eY_u8 (wrap_u8_rng _).1 (wrap_u8_rng _).2), ⟨(eY_u8 (wrap_u8_rng _).1 (wrap_u8_rng _).2), trivial⟩⟩
          with_unfolding_all refine TY_buildSlice rfl rfl rfl rfl rfl h35 rfl (by decide) (by with_unfolding_all exact Nat.le_of_ble_eq_true rfl) ?_
          have h36 : RS eY (.sl [.int .u8 ((bor .u8 192 (IntKind.wrap .u8 (bshr .i32 x1_ 6)))), .int .u8 ((bor .u8 128 (IntKind.wrap .u8 (band .i32 x1_ 63))))] .full) ([u8 (bor .u8 192 (IntKind.wrap .u8 (bshr .i32 x1_ 6))), u8 (bor .u8 128 (IntKind.wrap .u8 (band .i32 x1_ 63)))] : Str) := RS.of h35
          with_unfolding_all refine TY_append appT30_30 hO10 hM34 rfl rfl rfl rfl h0_ rfl h36 h33 ?_
          rintro u37 s39 (h38 : RS eY u37 x32) (hO40 : Own σ (idsL [.buf v0_]) s39 [.buf u37]) hM41
          with_unfolding_all refine TX_assign rfl ?_
          with_unfolding_all refine TX_nil ?_
          with_unfolding_all refine thenQ_normal ?_
          with_unfolding_all refine TE_ret ?_
          with_unfolding_all refine blockQ_ret ?_
          with_unfolding_all refine thenQ_ret ?_
          obtain rfl := some_s hF
          exact done_any (vs := [u37]) (.inr rfl) rfl (resR_tmp rfl resR_nil) ⟨h38, hO40.sub 1 rfl⟩
        · skip
          replace hF := ite_f hc31 hF
          with_unfolding_all refine TE_seq ?_
          with_unfolding_all refine TE_seqY ?_
          have hM42 := MB_none s9
          with_unfolding_all refine TX_move rfl ?_
          with_unfolding_all refine TX_cmp rfl rfl rfl ?_
          with_unfolding_all refine TX_assign rfl ?_
          with_unfolding_all refine TX_nil ?_
          with_unfolding_all refine thenQ_normal ?_
          with_unfolding_all refine TE_cond rfl (fun hc43 => ?_) (fun hc43 => ?_)
          · skip
            replace hF := ite_t hc43 hF
            with_unfolding_all refine TE_seq ?_
            obtain ⟨x44, h45, hF⟩ := bind_s hF
            with_unfolding_all refine TE_seqY ?_
            have hM46 := MB_none s9
            with_unfolding_all refine TX_move rfl ?_
            with_unfolding_all refine TX_move rfl ?_
            with_unfolding_all refine TX_sh rfl rfl (by decide) rfl ?_
            with_unfolding_all refine TX_convInt rfl rfl rfl ?_
            with_unfolding_all refine TX_bit rfl rfl rfl ?_
            with_unfolding_all refine TX_move rfl ?_
            with_unfolding_all refine TX_sh rfl rfl (by decide) rfl ?_
            with_unfolding_all refine TX_bit rfl rfl rfl ?_
            with_unfolding_all refine TX_convInt rfl rfl rfl ?_
            with_unfolding_all refine TX_bit rfl rfl rfl ?_
            with_unfolding_all refine TX_move rfl ?_
            with_unfolding_all refine TX_bit rfl rfl rfl ?_
            with_unfolding_all refine TX_convInt rfl rfl rfl ?_
            with_unfolding_all refine TX_bit rfl rfl rfl ?_
            have h47 : All2 eY.rel ([.int .u8 ((bor .u8 224 (IntKind.wrap .u8 (bshr .i32 x1_ 12)))), .int .u8 ((bor .u8 128 (IntKind.wrap .u8 (band .i32 (bshr .i32 x1_ 6) 63)))), .int .u8 ((bor .u8 128 (IntKind.wrap .u8 (band .i32 x1_ 63))))] : List AV) ([u8 (bor .u8 224 (IntKind.wrap .u8 (bshr .i32 x1_ 12))), u8 (bor .u8 128 (IntKind.wrap .u8 (band .i32 (bshr .i32 x1_ 6) 63))), u8 (bor .u8 128 (IntKind.wrap .u8 (band .i32 x1_ 63)))] : Str) := ⟨(eY_u8 (wrap_u8_rng _).1 (wrap_u8_rng _).2), ⟨(eY_u8 (wrap_u8_rng _).1 (wrap_u8_rng _).2), ⟨(eY_u8 (wrap_u8_rng _).1 (wrap_u8_rng _).2), trivial⟩⟩⟩
            with_unfolding_all refine TY_buildSlice rfl rfl rfl rfl rfl h47 rfl (by decide) (by with_unfolding_all exact Nat.le_of_ble_eq_true rfl) ?_
            have h48 : RS eY (.sl [.int .u8 ((bor .u8 224 (IntKind.wrap .u8 (bshr .i32 x1_ 12)))), .int .u8 ((bor .u8 128 (IntKind.wrap .u8 (band .i32 (bshr .i32 x1_ 6) 63)))), .int .u8 ((bor .u8 128 (IntKind.wrap .u8 (band .i32 x1_ 63))))] .full) ([u8 (bor .u8 224 (IntKind.wrap .u8 (bshr .i32 x1_ 12))), u8 (bor .u8 128 (IntKind.wrap .u8 (band .i32 (bshr .i32 x1_ 6) 63))), u8 (bor .u8 128 (IntKind.wrap .u8 (band .i32 x1_ 63)))] : Str) := RS.of h47
            with_unfolding_all refine TY_append appT30_30 hO10 hM46 rfl rfl rfl rfl h0_ rfl h48 h45 ?_
            rintro u49 s51 (h50 : RS eY u49 x44) (hO52 : Own σ (idsL [.buf v0_]) s51 [.buf u49]) hM53
            with_unfolding_all refine TX_assign rfl ?_
            with_unfolding_all refine TX_nil ?_
            with_unfolding_all refine thenQ_normal ?_
            with_unfolding_all refine TE_ret ?_
            with_unfolding_all refine blockQ_ret ?_
            with_unfolding_all refine thenQ_ret ?_
            obtain rfl := some_s hF
            exact done_any (vs := [u49]) (.inr rfl) rfl (resR_tmp rfl resR_nil) ⟨h50, hO52.sub 1 rfl⟩
          · skip
            replace hF := ite_f hc43 hF
            with_unfolding_all refine TE_skip ?_
            with_unfolding_all refine blockQ_normal ?_
            with_unfolding_all refine thenQ_normal ?_
            with_unfolding_all refine TE_seq ?_
            obtain ⟨x54, h55, hF⟩ := bind_s hF
            with_unfolding_all refine TE_seqY ?_
            have hM56 := MB_none s9
            with_unfolding_all refine TX_move rfl ?_
            with_unfolding_all refine TX_move rfl ?_
            with_unfolding_all refine TX_sh rfl rfl (by decide) rfl ?_
            with_unfolding_all refine TX_convInt rfl rfl rfl ?_
            with_unfolding_all refine TX_bit rfl rfl rfl ?_
            with_unfolding_all refine TX_move rfl ?_
            with_unfolding_all refine TX_sh rfl rfl (by decide) rfl ?_
            with_unfolding_all refine TX_bit rfl rfl rfl ?_
            with_unfolding_all refine TX_convInt rfl rfl rfl ?_
            with_unfolding_all refine TX_bit rfl rfl rfl ?_
            with_unfolding_all refine TX_move rfl ?_
            with_unfolding_all refine TX_sh rfl rfl (by decide) rfl ?_
            with_unfolding_all refine TX_bit rfl rfl rfl ?_
            with_unfolding_all refine TX_convInt rfl rfl rfl ?_
            with_unfolding_all refine TX_bit rfl rfl rfl ?_
            with_unfolding_all refine TX_move rfl ?_
            with_unfolding_all refine TX_bit rfl rfl rfl ?_
            with_unfolding_all refine TX_convInt rfl rfl rfl ?_
            with_unfolding_all refine TX_bit rfl rfl rfl ?_
            have h57 : All2 eY.rel ([.int .u8 ((bor .u8 240 (IntKind.wrap .u8 (bshr .i32 x1_ 18)))), .int .u8 ((bor .u8 128 (IntKind.wrap .u8 (band .i32 (bshr .i32 x1_ 12) 63)))), .int .u8 ((bor .u8 128 (IntKind.wrap .u8 (band .i32 (bshr .i32 x1_ 6) 63)))), .int .u8 ((bor .u8 128 (IntKind.wrap .u8 (band .i32 x1_ 63))))] : List AV) ([u8 (bor .u8 240 (IntKind.wrap .u8 (bshr .i32 x1_ 18))), u8 (bor .u8 128 (IntKind.wrap .u8 (band .i32 (bshr .i32 x1_ 12) 63))), u8 (bor .u8 128 (IntKind.wrap .u8 (band .i32 (bshr .i32 x1_ 6) 63))), u8 (bor .u8 128 (IntKind.wrap .u8 (band .i32 x1_ 63)))] : Str) := ⟨(eY_u8 (wrap_u8_rng _).1 (wrap_u8_rng _).2), ⟨(eY_u8 (wrap_u8_rng _).1 (wrap_u8_rng _).2), ⟨(eY_u8 (wrap_u8_rng _).1 (wrap_u8_rng _).2), ⟨(eY_u8 (wrap_u8_rng _).1 (wrap_u8_rng _).2), trivial⟩⟩⟩⟩
            with_unfolding_all refine TY_buildSlice rfl rfl rfl rfl rfl h57 rfl (by decide) (by with_unfolding_all exact Nat.le_of_ble_eq_true rfl) ?_
            have h58 : RS eY (.sl [.int .u8 ((bor .u8 240 (IntKind.wrap .u8 (bshr .i32 x1_ 18)))), .int .u8 ((bor .u8 128 (IntKind.wrap .u8 (band .i32 (bshr .i32 x1_ 12) 63)))), .int .u8 ((bor .u8 128 (IntKind.wrap .u8 (band .i32 (bshr .i32 x1_ 6) 63)))), .int .u8 ((bor .u8 128 (IntKind.wrap .u8 (band .i32 x1_ 63))))] .full) ([u8 (bor .u8 240 (IntKind.wrap .u8 (bshr .i32 x1_ 18))), u8 (bor .u8 128 (IntKind.wrap .u8 (band .i32 (bshr .i32 x1_ 12) 63))), u8 (bor .u8 128 (IntKind.wrap .u8 (band .i32 (bshr .i32 x1_ 6) 63))), u8 (bor .u8 128 (IntKind.wrap .u8 (band .i32 x1_ 63)))] : Str) := RS.of h57
            with_unfolding_all refine TY_append appT30_30 hO10 hM56 rfl rfl rfl rfl h0_ rfl h58 h55 ?_
            rintro u59 s61 (h60 : RS eY u59 x54) (hO62 : Own σ (idsL [.buf v0_]) s61 [.buf u59]) hM63
            with_unfolding_all refine TX_assign rfl ?_
            with_unfolding_all refine TX_nil ?_
            with_unfolding_all refine thenQ_normal ?_
            with_unfolding_all refine TE_ret ?_
            obtain rfl := some_s hF
            exact done_any (vs := [u59]) (.inr rfl) rfl (resR_tmp rfl resR_nil) ⟨h60, hO62.sub 1 rfl⟩
end Go.Proofs.Ytkhhmjikohonfaa.K
