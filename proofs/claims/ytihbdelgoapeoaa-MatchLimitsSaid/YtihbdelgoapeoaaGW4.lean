/- Walks. Printed. -/
import Derived.Test.YtihbdelgoapeoaaGW3
namespace Go.Proofs.Ytihbdelgoapeoaa.K
open Go Go.RowKit F
set_option maxRecDepth 100000
set_option maxHeartbeats 4000000
set_option linter.unusedVariables false
set_option linter.unusedSimpArgs false
theorem law12_spans_ok {x0_ : (List match_Span)} {x1_ : (List match_Span)} {y : Bool} (hF : F.law12_spans x0_ x1_ = some y) {v0_ : AV} {v1_ : AV} {σ : Mem} (h0_ : (RS e_match_Span) v0_ x0_) (h1_ : (RS e_match_Span) v1_ x1_)  :
    CallE Try.prog 53 [v0_, v1_] σ (fun v σ' => eB.rel v y ∧ Ext σ σ') := by
  unfold F.law12_spans at hF
  refine CallE_of Try.func53 rfl Try.ntmps53 (by simp) ?_
  have hO0 := Own.start σ
  with_unfolding_all refine TE_seq ?_
  with_unfolding_all refine TE_seqY ?_
  have hM1 := MB_none σ
  with_unfolding_all refine TX_assign rfl ?_
  with_unfolding_all refine TX_nil ?_
  with_unfolding_all refine thenQ_normal ?_
  with_unfolding_all refine TE_seq ?_
  with_unfolding_all refine TE_seq ?_
  with_unfolding_all refine TE_seqY ?_
  have hM2 := MB_none σ
  with_unfolding_all refine TX_move rfl ?_
  with_unfolding_all refine TY_len rfl rfl rfl rfl h0_ rfl ?_
  with_unfolding_all refine TX_move rfl ?_
  with_unfolding_all refine TY_len rfl rfl rfl rfl h1_ rfl ?_
  with_unfolding_all refine TX_cmp rfl rfl rfl ?_
  with_unfolding_all refine TX_nil ?_
  with_unfolding_all refine thenQ_normal ?_
  with_unfolding_all refine TE_cond rfl (fun hc3 => ?_) (fun hc3 => ?_)
  · skip
    replace hF := ite_t hc3 hF
    with_unfolding_all refine TE_seq ?_
    with_unfolding_all refine TE_seqY ?_
    have hM4 := MB_none σ
    with_unfolding_all refine TX_assign rfl ?_
    with_unfolding_all refine TX_nil ?_
    with_unfolding_all refine thenQ_normal ?_
    with_unfolding_all refine TE_ret ?_
    with_unfolding_all refine thenQ_ret ?_
    obtain rfl := some_s hF
    exact done_any (vs := [.bool (false)]) (.inr rfl) rfl (resR_tmp rfl resR_nil) ⟨rfl, hO0.ext⟩
  · skip
    replace hF := ite_f hc3 hF
    with_unfolding_all refine TE_skip ?_
    with_unfolding_all refine thenQ_normal ?_
    with_unfolding_all refine TE_seq ?_
    with_unfolding_all refine TE_seq ?_
    with_unfolding_all refine TE_seqY ?_
    have hM5 := MB_none σ
    with_unfolding_all refine TX_move rfl ?_
    with_unfolding_all refine TY_len rfl rfl rfl rfl h0_ rfl ?_
    with_unfolding_all refine TX_move rfl ?_
    with_unfolding_all refine TX_nil ?_
    with_unfolding_all refine thenQ_normal ?_
    with_unfolding_all refine TE_block ?_
    obtain ⟨a14, h15, hF⟩ := bind_s hF
    refine TE_iter (f := F.law12_spans_s1 x0_ x1_) (s0 := 0) (a := a14) (fun (q6 : Int) z => ∃ (s8 : Mem), Own σ [] s8 [] ∧ Le z ⟨fr 26 [(0, v0_), (1, v1_), (12, .int .i64 ((x0_.length : Int))), (13, .int .i64 (q6))], [], s8⟩) (fun (a : (Unit ⊕ Bool)) e z => (∃ p10 : Unit, a = (.inl p10) ∧ e = .exit 0 ∧ ∃ (s11 : Mem), Own σ [] s11 [] ∧ Le z ⟨fr 26 [], [], s11⟩) ∨ (∃ p13 : Bool, a = (.inr (p13)) ∧ e = .ret ∧ doneQ Try.prog Try.f53 (fun v σ' => eB.rel v p13 ∧ Ext σ σ') .ret z)) h15 ?_ ?_ ?_
    · skip
      exact ⟨σ, (hO0.sub 0 rfl), (Le_fr ⟨rfl, ⟨rfl, ⟨rfl, ⟨rfl, trivial⟩⟩⟩⟩)⟩
    · skip
      clear hF
      rintro q6 zq6 r7 ⟨s8, hO9, hz16⟩ hF
      unfold F.law12_spans_s1 at hF
      refine TE_pre hz16 ?_
      with_unfolding_all refine TE_seq ?_
      with_unfolding_all refine TE_seqY ?_
      have hM17 := MB_none s8
      with_unfolding_all refine TX_cmp rfl rfl rfl ?_
      with_unfolding_all refine TX_nil ?_
      with_unfolding_all refine thenQ_normal ?_
      with_unfolding_all refine TE_seq ?_
      with_unfolding_all refine TE_cond rfl (fun hc18 => ?_) (fun hc18 => ?_)
      · skip
        replace hF := ite_t hc18 hF
        with_unfolding_all refine TE_skip ?_
        with_unfolding_all refine thenQ_normal ?_
        with_unfolding_all refine TE_seq ?_
        with_unfolding_all refine TE_block ?_
        with_unfolding_all refine TE_seq ?_
        with_unfolding_all refine TE_seqY ?_
        have hM19 := MB_none s8
        with_unfolding_all refine TX_move rfl ?_
        with_unfolding_all refine TX_assign rfl ?_
        with_unfolding_all refine TX_nil ?_
        with_unfolding_all refine thenQ_normal ?_
        with_unfolding_all refine TE_seq ?_
        obtain ⟨x20, h21, hF⟩ := bind_s hF
        obtain ⟨x22, h23, hF⟩ := bind_s hF
        have hB24 : Bs [] s8 := Bs.nil _
        with_unfolding_all refine TE_drawY [] (by with_unfolding_all rfl) (by kernel_rfl) hB24 ?_
        have hM25 := MB_some hB24
        with_unfolding_all refine TX_move rfl ?_
        with_unfolding_all refine TX_move rfl ?_
        with_unfolding_all refine TY_idx (E := e_match_Span) rfl rfl rfl h0_ rfl h21 ?_
        intro u26 h27
        obtain rfl := h27
        with_unfolding_all refine TX_load_c rfl rfl ?_
        with_unfolding_all refine TX_move rfl ?_
        with_unfolding_all refine TX_move rfl ?_
        with_unfolding_all refine TY_idx (E := e_match_Span) rfl rfl rfl h1_ rfl h23 ?_
        intro u28 h29
        obtain rfl := h29
        with_unfolding_all refine TX_load_c rfl rfl ?_
        with_unfolding_all refine TX_plain (seq_neq_match_Span x20 x22 rfl rfl) rfl rfl ?_
        with_unfolding_all refine TX_nil ?_
        with_unfolding_all refine thenQ_normal ?_
        with_unfolding_all refine TE_cond rfl (fun hc30 => ?_) (fun hc30 => ?_)
        · skip
          replace hF := ite_t hc30 hF
          with_unfolding_all refine TE_seq ?_
          with_unfolding_all refine TE_seqY ?_
          have hM31 := MB_none s8
          with_unfolding_all refine TX_assign rfl ?_
          with_unfolding_all refine TX_nil ?_
          with_unfolding_all refine thenQ_normal ?_
          with_unfolding_all refine TE_ret ?_
          with_unfolding_all refine blockQ_ret ?_
          with_unfolding_all refine thenQ_ret ?_
          obtain rfl := some_s hF
          exact iterQ_ret (.inr <| ⟨_, rfl, rfl, (done_any (vs := [.bool (false)]) (.inr rfl) rfl (resR_tmp rfl resR_nil) ⟨rfl, hO9.ext⟩)⟩)
        · skip
          replace hF := ite_f hc30 hF
          with_unfolding_all refine TE_skip ?_
          with_unfolding_all refine blockQ_normal ?_
          with_unfolding_all refine thenQ_normal ?_
          with_unfolding_all refine TE_seqY ?_
          have hM32 := MB_none s8
          with_unfolding_all refine TX_ari rfl rfl rfl ?_
          with_unfolding_all refine TX_move rfl ?_
          with_unfolding_all refine TX_nil ?_
          obtain rfl := some_s hF
          exact iterQ_again ⟨s8, (hO9.sub 0 rfl), (Le_fr ⟨rfl, ⟨rfl, ⟨rfl, ⟨rfl, trivial⟩⟩⟩⟩)⟩
      · skip
        replace hF := ite_f hc18 hF
        with_unfolding_all refine TE_exit ?_
        with_unfolding_all refine thenQ_exit ?_
        obtain rfl := some_s hF
        exact iterQ_exit (.inl <| ⟨_, rfl, rfl, s8, (hO9.sub 0 rfl), (Le_fr trivial)⟩)
    · skip
      rintro eq6 zq6 (⟨p10, rfl, rfl, s11, hO12, hz33⟩ | ⟨p13, rfl, rfl, hdp13⟩)
      · skip
        try dsimp only at hF
        with_unfolding_all refine blockQ_out ?_
        with_unfolding_all refine thenQ_normal ?_
        refine TE_pre hz33 ?_
        with_unfolding_all refine TE_seq ?_
        with_unfolding_all refine TE_seqY ?_
        have hM34 := MB_none s11
        with_unfolding_all refine TX_assign rfl ?_
        with_unfolding_all refine TX_nil ?_
        with_unfolding_all refine thenQ_normal ?_
        with_unfolding_all refine TE_ret ?_
        obtain rfl := some_s hF
        exact done_any (vs := [.bool (true)]) (.inr rfl) rfl (resR_tmp rfl resR_nil) ⟨rfl, hO12.ext⟩
      · skip
        try dsimp only at hF
        with_unfolding_all refine blockQ_ret ?_
        with_unfolding_all refine thenQ_ret ?_
        obtain rfl := some_s hF
        exact hdp13
theorem law12_Same_ok {x0_ : (List match_Match)} {x1_ : (List match_Match)} {y : Bool} (hF : F.law12_Same x0_ x1_ = some y) {v0_ : AV} {v1_ : AV} {σ : Mem} (h0_ : (RS e_match_Match) v0_ x0_) (h1_ : (RS e_match_Match) v1_ x1_)  :
    CallE Try.prog 16 [v0_, v1_] σ (fun v σ' => eB.rel v y ∧ Ext σ σ') := by
  unfold F.law12_Same at hF
  refine CallE_of Try.func16 rfl Try.ntmps16 (by simp) ?_
  have hO0 := Own.start σ
  with_unfolding_all refine TE_seq ?_
  with_unfolding_all refine TE_seqY ?_
  have hM1 := MB_none σ
  with_unfolding_all refine TX_assign rfl ?_
  with_unfolding_all refine TX_nil ?_
  with_unfolding_all refine thenQ_normal ?_
  with_unfolding_all refine TE_seq ?_
  with_unfolding_all refine TE_seq ?_
  with_unfolding_all refine TE_seqY ?_
  have hM2 := MB_none σ
  with_unfolding_all refine TX_move rfl ?_
  with_unfolding_all refine TY_len rfl rfl rfl rfl h0_ rfl ?_
  with_unfolding_all refine TX_move rfl ?_
  with_unfolding_all refine TY_len rfl rfl rfl rfl h1_ rfl ?_
  with_unfolding_all refine TX_cmp rfl rfl rfl ?_
  with_unfolding_all refine TX_nil ?_
  with_unfolding_all refine thenQ_normal ?_
  with_unfolding_all refine TE_cond rfl (fun hc3 => ?_) (fun hc3 => ?_)
  · skip
    replace hF := ite_t hc3 hF
    with_unfolding_all refine TE_seq ?_
    with_unfolding_all refine TE_seqY ?_
    have hM4 := MB_none σ
    with_unfolding_all refine TX_assign rfl ?_
    with_unfolding_all refine TX_nil ?_
    with_unfolding_all refine thenQ_normal ?_
    with_unfolding_all refine TE_ret ?_
    with_unfolding_all refine thenQ_ret ?_
    obtain rfl := some_s hF
    exact done_any (vs := [.bool (false)]) (.inr rfl) rfl (resR_tmp rfl resR_nil) ⟨rfl, hO0.ext⟩
  · skip
    replace hF := ite_f hc3 hF
    with_unfolding_all refine TE_skip ?_
    with_unfolding_all refine thenQ_normal ?_
    with_unfolding_all refine TE_seq ?_
    with_unfolding_all refine TE_seq ?_
    with_unfolding_all refine TE_seqY ?_
    have hM5 := MB_none σ
    with_unfolding_all refine TX_move rfl ?_
    with_unfolding_all refine TY_len rfl rfl rfl rfl h0_ rfl ?_
    with_unfolding_all refine TX_move rfl ?_
    with_unfolding_all refine TX_nil ?_
    with_unfolding_all refine thenQ_normal ?_
    with_unfolding_all refine TE_block ?_
    obtain ⟨a14, h15, hF⟩ := bind_s hF
    refine TE_iter (f := F.law12_Same_s1 x0_ x1_) (s0 := 0) (a := a14) (fun (q6 : Int) z => ∃ (s8 : Mem), Own σ [] s8 [] ∧ Le z ⟨fr 43 [(0, v0_), (1, v1_), (12, .int .i64 ((x0_.length : Int))), (13, .int .i64 (q6))], [], s8⟩) (fun (a : (Unit ⊕ Bool)) e z => (∃ p10 : Unit, a = (.inl p10) ∧ e = .exit 0 ∧ ∃ (s11 : Mem), Own σ [] s11 [] ∧ Le z ⟨fr 43 [], [], s11⟩) ∨ (∃ p13 : Bool, a = (.inr (p13)) ∧ e = .ret ∧ doneQ Try.prog Try.f16 (fun v σ' => eB.rel v p13 ∧ Ext σ σ') .ret z)) h15 ?_ ?_ ?_
    · skip
      exact ⟨σ, (hO0.sub 0 rfl), (Le_fr ⟨rfl, ⟨rfl, ⟨rfl, ⟨rfl, trivial⟩⟩⟩⟩)⟩
    · skip
      clear hF
      rintro q6 zq6 r7 ⟨s8, hO9, hz16⟩ hF
      unfold F.law12_Same_s1 at hF
      refine TE_pre hz16 ?_
      with_unfolding_all refine TE_seq ?_
      with_unfolding_all refine TE_seqY ?_
      have hM17 := MB_none s8
      with_unfolding_all refine TX_cmp rfl rfl rfl ?_
      with_unfolding_all refine TX_nil ?_
      with_unfolding_all refine thenQ_normal ?_
      with_unfolding_all refine TE_seq ?_
      with_unfolding_all refine TE_cond rfl (fun hc18 => ?_) (fun hc18 => ?_)
      · skip
        replace hF := ite_t hc18 hF
        with_unfolding_all refine TE_skip ?_
        with_unfolding_all refine thenQ_normal ?_
        with_unfolding_all refine TE_seq ?_
        with_unfolding_all refine TE_block ?_
        with_unfolding_all refine TE_seq ?_
        with_unfolding_all refine TE_seqY ?_
        have hM19 := MB_none s8
        with_unfolding_all refine TX_move rfl ?_
        with_unfolding_all refine TX_assign rfl ?_
        with_unfolding_all refine TX_nil ?_
        with_unfolding_all refine thenQ_normal ?_
        with_unfolding_all refine TE_seq ?_
        obtain ⟨x20, h21, hF⟩ := bind_s hF
        obtain ⟨x26, h27, hF⟩ := bind_s hF
        obtain ⟨x32, h33, hF⟩ := bind_s hF
        obtain ⟨r48, h49, hF⟩ := bind_s hF
        refine TE_cutQ (fun z => ∃ (s51 : Mem), Own σ [] s51 [] ∧ Le z ⟨fr 43 [(0, v0_), (1, v1_), (12, .int .i64 ((x0_.length : Int))), (13, .int .i64 (q6)), (41, .bool (r48))], [], s51⟩) ?_ ?_
        · skip
          have hB54 : Bs [] s8 := Bs.nil _
          with_unfolding_all refine TE_drawY [] (by with_unfolding_all rfl) (by kernel_rfl) hB54 ?_
          have hM55 := MB_some hB54
          with_unfolding_all refine TX_move rfl ?_
          with_unfolding_all refine TX_move rfl ?_
          with_unfolding_all refine TY_idx (E := e_match_Match) rfl rfl rfl h0_ rfl h21 ?_
          intro u56 h57
          obtain ⟨u58, u60, rfl, h59, h61⟩ := h57
          with_unfolding_all refine TX_fieldAddr_c rfl rfl rfl ?_
          with_unfolding_all refine TX_load_c rfl rfl ?_
          with_unfolding_all refine TX_move rfl ?_
          with_unfolding_all refine TX_move rfl ?_
          with_unfolding_all refine TY_idx (E := e_match_Match) rfl rfl rfl h1_ rfl h27 ?_
          intro u62 h63
          obtain ⟨u64, u66, rfl, h65, h67⟩ := h63
          with_unfolding_all refine TX_fieldAddr_c rfl rfl rfl ?_
          with_unfolding_all refine TX_load_c rfl rfl ?_
          have hc68 : CallE Try.prog 53 [u58, u64] s8 _ := law12_spans_ok h33 h59 h65
          with_unfolding_all refine TY_call hM55 rfl en53 hc68 ?_
          intro v69 s73 hv70 hX71 hM72
          have hO74 := hO9.ext_call hX71
          obtain rfl := hv70
          with_unfolding_all refine TX_not rfl ?_
          with_unfolding_all refine TX_move rfl ?_
          with_unfolding_all refine TX_guard_f rfl rfl (fun hc75 => ?_) (fun hc75 => ?_)
          · skip
            replace h49 := ite_t hc75 h49
            obtain rfl := some_s h49
            with_unfolding_all refine TX_guard_no_f rfl rfl hc75 ?_
            with_unfolding_all refine TX_guard_no_f rfl rfl hc75 ?_
            with_unfolding_all refine TX_guard_no_f rfl rfl hc75 ?_
            with_unfolding_all refine TX_guard_no_f rfl rfl hc75 ?_
            with_unfolding_all refine TX_guard_no_f rfl rfl hc75 ?_
            with_unfolding_all refine TX_guard_no_f rfl rfl hc75 ?_
            with_unfolding_all refine TX_guard_no_f rfl rfl hc75 ?_
            with_unfolding_all refine TX_guard_no_f rfl rfl hc75 ?_
            with_unfolding_all refine TX_guard_no_f rfl rfl hc75 ?_
            with_unfolding_all refine TX_guard_no_f rfl rfl hc75 ?_
            with_unfolding_all refine TX_guard_no_f rfl rfl hc75 ?_
            with_unfolding_all refine TX_pick_t rfl hc75 rfl ?_
            with_unfolding_all refine TX_nil ?_
            exact joinQ_normal ⟨s73, (hO74.sub 0 rfl), (Le_fr ⟨rfl, ⟨rfl, ⟨rfl, ⟨rfl, ⟨rfl, trivial⟩⟩⟩⟩⟩)⟩
          · skip
            replace h49 := ite_f hc75 h49
            obtain ⟨x34, h35, h49⟩ := bind_s h49
            obtain ⟨x40, h41, h49⟩ := bind_s h49
            obtain ⟨x46, h47, h49⟩ := bind_s h49
            with_unfolding_all refine TX_move rfl ?_
            with_unfolding_all refine TX_guard_yes rfl rfl hc75 ?_
            with_unfolding_all refine TX_move rfl ?_
            with_unfolding_all refine TX_guard_yes rfl rfl hc75 ?_
            with_unfolding_all refine TY_idx (E := e_match_Match) rfl rfl rfl h0_ rfl h35 ?_
            intro u76 h77
            obtain ⟨u78, u80, rfl, h79, h81⟩ := h77
            with_unfolding_all refine TX_guard_yes rfl rfl hc75 ?_
            with_unfolding_all refine TX_fieldAddr_c rfl rfl rfl ?_
            with_unfolding_all refine TX_guard_yes rfl rfl hc75 ?_
            with_unfolding_all refine TX_load_c rfl rfl ?_
            with_unfolding_all refine TX_guard_yes rfl rfl hc75 ?_
            with_unfolding_all refine TX_move rfl ?_
            with_unfolding_all refine TX_guard_yes rfl rfl hc75 ?_
            with_unfolding_all refine TX_move rfl ?_
            with_unfolding_all refine TX_guard_yes rfl rfl hc75 ?_
            with_unfolding_all refine TY_idx (E := e_match_Match) rfl rfl rfl h1_ rfl h41 ?_
            intro u82 h83
            obtain ⟨u84, u86, rfl, h85, h87⟩ := h83
            with_unfolding_all refine TX_guard_yes rfl rfl hc75 ?_
            with_unfolding_all refine TX_fieldAddr_c rfl rfl rfl ?_
            with_unfolding_all refine TX_guard_yes rfl rfl hc75 ?_
            with_unfolding_all refine TX_load_c rfl rfl ?_
            with_unfolding_all refine TX_guard_yes rfl rfl hc75 ?_
            have hc88 : CallE Try.prog 53 [u80, u86] s73 _ := law12_spans_ok h47 h81 h87
            with_unfolding_all refine TY_call hM72 rfl en53 hc88 ?_
            intro v89 s93 hv90 hX91 hM92
            have hO94 := hO74.ext_call hX91
            obtain rfl := hv90
            with_unfolding_all refine TX_guard_yes rfl rfl hc75 ?_
            with_unfolding_all refine TX_not rfl ?_
            with_unfolding_all refine TX_pick_f rfl hc75 rfl ?_
            obtain rfl := some_s h49
            with_unfolding_all refine TX_nil ?_
            exact joinQ_normal ⟨s93, (hO94.sub 0 rfl), (Le_fr ⟨rfl, ⟨rfl, ⟨rfl, ⟨rfl, ⟨rfl, trivial⟩⟩⟩⟩⟩)⟩
        · skip
          rintro zj50 ⟨s51, hO52, hz53⟩
          with_unfolding_all refine thenQ_normal ?_
          refine TE_pre hz53 ?_
          with_unfolding_all refine TE_cond rfl (fun hc95 => ?_) (fun hc95 => ?_)
          · skip
            replace hF := ite_t hc95 hF
            with_unfolding_all refine TE_seq ?_
            with_unfolding_all refine TE_seqY ?_
            have hM96 := MB_none s51
            with_unfolding_all refine TX_assign rfl ?_
            with_unfolding_all refine TX_nil ?_
            with_unfolding_all refine thenQ_normal ?_
            with_unfolding_all refine TE_ret ?_
            with_unfolding_all refine blockQ_ret ?_
            with_unfolding_all refine thenQ_ret ?_
            obtain rfl := some_s hF
            exact iterQ_ret (.inr <| ⟨_, rfl, rfl, (done_any (vs := [.bool (false)]) (.inr rfl) rfl (resR_tmp rfl resR_nil) ⟨rfl, hO52.ext⟩)⟩)
          · skip
            replace hF := ite_f hc95 hF
            with_unfolding_all refine TE_skip ?_
            with_unfolding_all refine blockQ_normal ?_
            with_unfolding_all refine thenQ_normal ?_
            with_unfolding_all refine TE_seqY ?_
            have hM97 := MB_none s51
            with_unfolding_all refine TX_ari rfl rfl rfl ?_
            with_unfolding_all refine TX_move rfl ?_
            with_unfolding_all refine TX_nil ?_
            obtain rfl := some_s hF
            exact iterQ_again ⟨s51, (hO52.sub 0 rfl), (Le_fr ⟨rfl, ⟨rfl, ⟨rfl, ⟨rfl, trivial⟩⟩⟩⟩)⟩
      · skip
        replace hF := ite_f hc18 hF
        with_unfolding_all refine TE_exit ?_
        with_unfolding_all refine thenQ_exit ?_
        obtain rfl := some_s hF
        exact iterQ_exit (.inl <| ⟨_, rfl, rfl, s8, (hO9.sub 0 rfl), (Le_fr trivial)⟩)
    · skip
      rintro eq6 zq6 (⟨p10, rfl, rfl, s11, hO12, hz98⟩ | ⟨p13, rfl, rfl, hdp13⟩)
      · skip
        try dsimp only at hF
        with_unfolding_all refine blockQ_out ?_
        with_unfolding_all refine thenQ_normal ?_
        refine TE_pre hz98 ?_
        with_unfolding_all refine TE_seq ?_
        with_unfolding_all refine TE_seqY ?_
        have hM99 := MB_none s11
        with_unfolding_all refine TX_assign rfl ?_
        with_unfolding_all refine TX_nil ?_
        with_unfolding_all refine thenQ_normal ?_
        with_unfolding_all refine TE_ret ?_
        obtain rfl := some_s hF
        exact done_any (vs := [.bool (true)]) (.inr rfl) rfl (resR_tmp rfl resR_nil) ⟨rfl, hO12.ext⟩
      · skip
        try dsimp only at hF
        with_unfolding_all refine blockQ_ret ?_
        with_unfolding_all refine thenQ_ret ?_
        obtain rfl := some_s hF
        exact hdp13
end Go.Proofs.Ytihbdelgoapeoaa.K
