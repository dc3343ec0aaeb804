/- Walks. Printed. -/
import Derived.Test.YtihbdelgoapeoaaGW2
namespace Go.Proofs.Ytihbdelgoapeoaa.K
open Go Go.RowKit F
set_option maxRecDepth 100000
set_option maxHeartbeats 4000000
set_option linter.unusedVariables false
set_option linter.unusedSimpArgs false
theorem law12_Good_ok {x0_ : (List match_Match)} {x1_ : Int} {y : Bool} (hF : F.law12_Good x0_ x1_ = some y) {v0_ : AV} {v1_ : AV} {σ : Mem} (h0_ : (RS e_match_Match) v0_ x0_) (h1_ : (eI .i64).rel v1_ x1_)  :
    CallE Try.prog 15 [v0_, v1_] σ (fun v σ' => eB.rel v y ∧ Ext σ σ') := by
  unfold F.law12_Good at hF
  obtain rfl := h1_
  refine CallE_of Try.func15 rfl Try.ntmps15 (by simp) ?_
  have hO0 := Own.start σ
  with_unfolding_all refine TE_seq ?_
  with_unfolding_all refine TE_seqY ?_
  have hM1 := MB_none σ
  with_unfolding_all refine TX_assign rfl ?_
  with_unfolding_all refine TX_nil ?_
  with_unfolding_all refine thenQ_normal ?_
  with_unfolding_all refine TE_seq ?_
  with_unfolding_all refine TE_seq ?_
  with_unfolding_all refine TE_seqY ?_
  have hM2 := MB_none σ
  with_unfolding_all refine TX_move rfl ?_
  with_unfolding_all refine TY_len rfl rfl rfl rfl h0_ rfl ?_
  with_unfolding_all refine TX_move rfl ?_
  with_unfolding_all refine TX_nil ?_
  with_unfolding_all refine thenQ_normal ?_
  with_unfolding_all refine TE_block ?_
  obtain ⟨a11, h12, hF⟩ := bind_s hF
  refine TE_iter (f := F.law12_Good_s1 x0_) (s0 := 0) (a := a11) (fun (q3 : Int) z => ∃ (s5 : Mem), Own σ [] s5 [] ∧ Le z ⟨fr 58 [(0, v0_), (1, .int .i64 (x1_)), (9, v0_), (10, .int .i64 ((x0_.length : Int))), (11, .int .i64 (q3))], [], s5⟩) (fun (a : (Unit ⊕ Bool)) e z => (∃ p7 : Unit, a = (.inl p7) ∧ e = .exit 0 ∧ ∃ (s8 : Mem), Own σ [] s8 [] ∧ Le z ⟨fr 58 [(0, v0_), (1, .int .i64 (x1_))], [], s8⟩) ∨ (∃ p10 : Bool, a = (.inr (p10)) ∧ e = .ret ∧ doneQ Try.prog Try.f15 (fun v σ' => eB.rel v p10 ∧ Ext σ σ') .ret z)) h12 ?_ ?_ ?_
  · skip
    exact ⟨σ, (hO0.sub 0 rfl), (Le_fr ⟨rfl, ⟨rfl, ⟨rfl, ⟨rfl, ⟨rfl, trivial⟩⟩⟩⟩⟩)⟩
  · skip
    clear hF
    rintro q3 zq3 r4 ⟨s5, hO6, hz13⟩ hF
    unfold F.law12_Good_s1 at hF
    refine TE_pre hz13 ?_
    with_unfolding_all refine TE_seq ?_
    with_unfolding_all refine TE_seqY ?_
    have hM14 := MB_none s5
    with_unfolding_all refine TX_cmp rfl rfl rfl ?_
    with_unfolding_all refine TX_nil ?_
    with_unfolding_all refine thenQ_normal ?_
    with_unfolding_all refine TE_seq ?_
    with_unfolding_all refine TE_cond rfl (fun hc15 => ?_) (fun hc15 => ?_)
    · skip
      replace hF := ite_t hc15 hF
      with_unfolding_all refine TE_skip ?_
      with_unfolding_all refine thenQ_normal ?_
      with_unfolding_all refine TE_seq ?_
      with_unfolding_all refine TE_block ?_
      with_unfolding_all refine TE_seq ?_
      obtain ⟨x16, h17, hF⟩ := bind_s hF
      with_unfolding_all refine TE_seqY ?_
      have hM22 := MB_none s5
      with_unfolding_all refine TY_idx (E := e_match_Match) rfl rfl rfl h0_ rfl h17 ?_
      intro u23 h24
      obtain ⟨u25, u27, rfl, h26, h28⟩ := h24
      with_unfolding_all refine TX_load_c rfl rfl ?_
      with_unfolding_all refine TY_alloc hO6 hM22 rfl rfl ?_
      rintro id29 s30 (hO31 : Own σ [] s30 [.obj id29 [.nils, .nils]]) hM32
      with_unfolding_all refine TY_store (v := .agg [u25, u27]) (vc := [u25, u27]) hO31 hM32 (MNe.none _) rfl rfl rfl rfl (by with_unfolding_all exact Nat.le_of_ble_eq_true rfl) (ones_cons (RS.one1 h26) (ones_cons (RS.one1 h28) ones_nil)) rfl ?_
      rintro s33 (hO34 : Own σ [] s33 [.obj id29 [u25, u27]]) hM35
      with_unfolding_all refine TX_nil ?_
      with_unfolding_all refine thenQ_normal ?_
      with_unfolding_all refine TE_seq ?_
      with_unfolding_all refine TE_seq ?_
      obtain ⟨r36, h37, hF⟩ := bind_s hF
      refine TE_cutQ (fun z => ∃ (s39 : Mem), Own σ [] s39 [.obj id29 [u25, u27]] ∧ Le z ⟨fr 58 [(0, v0_), (1, .int .i64 (x1_)), (6, .ptr id29 0), (9, v0_), (10, .int .i64 ((x0_.length : Int))), (11, .int .i64 (q3)), (24, .bool (r36))], [], s39⟩) ?_ ?_
      · skip
        with_unfolding_all refine TE_seqY ?_
        have hM42 := MB_none s33
        with_unfolding_all refine TX_fieldAddr_p rfl rfl rfl ?_
        with_unfolding_all refine TX_load_p rfl (MC_none (hO34.obj 0 rfl)) rfl ?_
        with_unfolding_all refine TY_len rfl rfl rfl rfl h26 rfl ?_
        with_unfolding_all refine TX_cmp rfl rfl rfl ?_
        with_unfolding_all refine TX_move rfl ?_
        with_unfolding_all refine TX_guard_f rfl rfl (fun hc43 => ?_) (fun hc43 => ?_)
        · skip
          replace h37 := or_t hc43 h37
          obtain rfl := some_s h37
          with_unfolding_all refine TX_guard_no_f rfl rfl hc43 ?_
          with_unfolding_all refine TX_guard_no_f rfl rfl hc43 ?_
          with_unfolding_all refine TX_guard_no_f rfl rfl hc43 ?_
          with_unfolding_all refine TX_pick_t rfl hc43 rfl ?_
          with_unfolding_all refine TX_nil ?_
          exact joinQ_normal ⟨s33, (hO34.sub 1 rfl), (Le_fr ⟨rfl, ⟨rfl, ⟨rfl, ⟨rfl, ⟨rfl, ⟨rfl, ⟨rfl, trivial⟩⟩⟩⟩⟩⟩⟩)⟩
        · skip
          replace h37 := or_f hc43 h37
          with_unfolding_all refine TX_fieldAddr_p rfl rfl rfl ?_
          with_unfolding_all refine TX_guard_yes rfl rfl hc43 ?_
          with_unfolding_all refine TX_load_p rfl (MC_none (hO34.obj 0 rfl)) rfl ?_
          with_unfolding_all refine TX_guard_yes rfl rfl hc43 ?_
          with_unfolding_all refine TY_len rfl rfl rfl rfl h28 rfl ?_
          with_unfolding_all refine TX_guard_yes rfl rfl hc43 ?_
          with_unfolding_all refine TX_cmp rfl rfl rfl ?_
          with_unfolding_all refine TX_pick_f rfl hc43 rfl ?_
          obtain rfl := some_s h37
          with_unfolding_all refine TX_nil ?_
          exact joinQ_normal ⟨s33, (hO34.sub 1 rfl), (Le_fr ⟨rfl, ⟨rfl, ⟨rfl, ⟨rfl, ⟨rfl, ⟨rfl, ⟨rfl, trivial⟩⟩⟩⟩⟩⟩⟩)⟩
      · skip
        rintro zj38 ⟨s39, hO40, hz41⟩
        with_unfolding_all refine thenQ_normal ?_
        refine TE_pre hz41 ?_
        with_unfolding_all refine TE_cond rfl (fun hc44 => ?_) (fun hc44 => ?_)
        · skip
          replace hF := ite_t hc44 hF
          with_unfolding_all refine TE_seq ?_
          with_unfolding_all refine TE_seqY ?_
          have hM45 := MB_none s39
          with_unfolding_all refine TX_assign rfl ?_
          with_unfolding_all refine TX_nil ?_
          with_unfolding_all refine thenQ_normal ?_
          with_unfolding_all refine TE_ret ?_
          with_unfolding_all refine thenQ_ret ?_
          with_unfolding_all refine blockQ_ret ?_
          with_unfolding_all refine thenQ_ret ?_
          obtain rfl := some_s hF
          exact iterQ_ret (.inr <| ⟨_, rfl, rfl, (done_any (vs := [.bool (false)]) (.inr rfl) rfl (resR_tmp rfl resR_nil) ⟨rfl, hO40.ext⟩)⟩)
        · skip
          replace hF := ite_f hc44 hF
          with_unfolding_all refine TE_skip ?_
          with_unfolding_all refine thenQ_normal ?_
          with_unfolding_all refine TE_seq ?_
          obtain ⟨x46, h47, hF⟩ := bind_s hF
          obtain ⟨x48, h49, hF⟩ := bind_s hF
          have hB50 : Bs [(id29, [u25, u27])] s39 := Bs.cons (hO40.obj 0 rfl) (Bs.nil _)
          with_unfolding_all refine TE_drawY [(id29, [u25, u27])] (by with_unfolding_all rfl) (by kernel_rfl) hB50 ?_
          have hM51 := MB_some hB50
          have h52 : All2 e_match_Span.rel ([] : List AV) ([] : (List match_Span)) := trivial
          with_unfolding_all refine TY_buildSlice rfl rfl rfl rfl rfl h52 rfl (by decide) (by with_unfolding_all exact Nat.le_of_ble_eq_true rfl) ?_
          have h53 : RS e_match_Span (.sl [] .full) ([] : (List match_Span)) := RS.of h52
          with_unfolding_all refine TX_fieldAddr_p rfl rfl rfl ?_
          with_unfolding_all refine TX_load_p rfl (MC_some 0 rfl) rfl ?_
          have hO54 : Own σ [] s39 [.buf (.sl [] .full), .obj id29 [u25, u27]] := hO40.bufFull []
          with_unfolding_all refine TY_append appT25_25 hO54 hM51 rfl rfl rfl rfl h53 rfl h26 h47 ?_
          rintro u55 s57 (h56 : RS e_match_Span u55 x46) (hO58 : Own σ [] s57 [.buf u55, .obj id29 [u25, u27]]) hM59
          with_unfolding_all refine TX_fieldAddr_p rfl rfl rfl ?_
          with_unfolding_all refine TX_load_p rfl (MC_some 0 rfl) rfl ?_
          with_unfolding_all refine TY_append appT25_25 hO58 hM59 rfl rfl rfl rfl h56 rfl h28 h49 ?_
          rintro u60 s62 (h61 : RS e_match_Span u60 x48) (hO63 : Own σ [] s62 [.buf u60, .obj id29 [u25, u27]]) hM64
          with_unfolding_all refine TY_len rfl rfl rfl rfl h61 rfl ?_
          with_unfolding_all refine TX_move rfl ?_
          with_unfolding_all refine TX_nil ?_
          with_unfolding_all refine thenQ_normal ?_
          with_unfolding_all refine TE_block ?_
          obtain ⟨a73, h74, hF⟩ := bind_s hF
          refine TE_iter (f := F.law12_Good_s2 x48) (s0 := 0) (a := a73) (fun (q65 : Int) z => ∃ (s67 : Mem), Own σ [] s67 [.buf u60, .obj id29 [u25, u27]] ∧ Le z ⟨fr 58 [(0, v0_), (1, .int .i64 (x1_)), (9, v0_), (10, .int .i64 ((x0_.length : Int))), (11, .int .i64 (q3)), (31, u60), (32, .int .i64 ((x48.length : Int))), (33, .int .i64 (q65))], [], s67⟩) (fun (a : (Unit ⊕ Bool)) e z => (∃ p69 : Unit, a = (.inl p69) ∧ e = .exit 2 ∧ ∃ (s70 : Mem), Own σ [] s70 [.buf u60, .obj id29 [u25, u27]] ∧ Le z ⟨fr 58 [(0, v0_), (1, .int .i64 (x1_)), (9, v0_), (10, .int .i64 ((x0_.length : Int))), (11, .int .i64 (q3))], [], s70⟩) ∨ (∃ p72 : Bool, a = (.inr (p72)) ∧ e = .ret ∧ doneQ Try.prog Try.f15 (fun v σ' => eB.rel v p72 ∧ Ext σ σ') .ret z)) h74 ?_ ?_ ?_
          · skip
            have hO75 : Own σ [] s62 [.obj id29 [u25, u27], .buf u60] := hO63.front 1 rfl rfl
            have hO76 : Own σ [] s62 [.buf u60, .obj id29 [u25, u27]] := hO75.front 1 rfl rfl
            exact ⟨s62, (hO76.sub 2 rfl), (Le_fr ⟨rfl, ⟨rfl, ⟨rfl, ⟨rfl, ⟨rfl, ⟨rfl, ⟨rfl, ⟨rfl, trivial⟩⟩⟩⟩⟩⟩⟩⟩)⟩
          · skip
            clear hF
            rintro q65 zq65 r66 ⟨s67, hO68, hz77⟩ hF
            unfold F.law12_Good_s2 at hF
            refine TE_pre hz77 ?_
            with_unfolding_all refine TE_seq ?_
            with_unfolding_all refine TE_seqY ?_
            have hM78 := MB_none s67
            with_unfolding_all refine TX_cmp rfl rfl rfl ?_
            with_unfolding_all refine TX_nil ?_
            with_unfolding_all refine thenQ_normal ?_
            with_unfolding_all refine TE_seq ?_
            with_unfolding_all refine TE_cond rfl (fun hc79 => ?_) (fun hc79 => ?_)
            · skip
              replace hF := ite_t hc79 hF
              with_unfolding_all refine TE_skip ?_
              with_unfolding_all refine thenQ_normal ?_
              with_unfolding_all refine TE_seq ?_
              with_unfolding_all refine TE_block ?_
              with_unfolding_all refine TE_seq ?_
              obtain ⟨x80, h81, hF⟩ := bind_s hF
              with_unfolding_all refine TE_seqY ?_
              have hM82 := MB_none s67
              with_unfolding_all refine TY_idx (E := e_match_Span) rfl rfl rfl h61 rfl h81 ?_
              intro u83 h84
              obtain rfl := h84
              with_unfolding_all refine TX_load_c rfl rfl ?_
              with_unfolding_all refine TY_alloc hO68 hM82 rfl rfl ?_
              rintro id85 s86 (hO87 : Own σ [] s86 [.obj id85 [.int .i64 (0), .int .i64 (0), .int .i64 (0), .int .i64 (0)], .buf u60, .obj id29 [u25, u27]]) hM88
              with_unfolding_all refine TY_store (v := .agg [.int .i64 (x80.From), .int .i64 (x80.To), .int .i64 (x80.Part), .int .i64 (x80.Weight)]) (vc := [.int .i64 (x80.From), .int .i64 (x80.To), .int .i64 (x80.Part), .int .i64 (x80.Weight)]) hO87 hM88 (MNe.none _) rfl rfl rfl rfl (by with_unfolding_all exact Nat.le_of_ble_eq_true rfl) (ones_cons rfl (ones_cons rfl (ones_cons rfl (ones_cons rfl ones_nil)))) rfl ?_
              rintro s89 (hO90 : Own σ [] s89 [.obj id85 [.int .i64 (x80.From), .int .i64 (x80.To), .int .i64 (x80.Part), .int .i64 (x80.Weight)], .buf u60, .obj id29 [u25, u27]]) hM91
              with_unfolding_all refine TX_nil ?_
              with_unfolding_all refine thenQ_normal ?_
              with_unfolding_all refine TE_seq ?_
              obtain ⟨r92, h93, hF⟩ := bind_s hF
              obtain ⟨r94, h95, hF⟩ := bind_s hF
              refine TE_cutQ (fun z => ∃ (s97 : Mem), Own σ [] s97 [.obj id85 [.int .i64 (x80.From), .int .i64 (x80.To), .int .i64 (x80.Part), .int .i64 (x80.Weight)], .buf u60, .obj id29 [u25, u27]] ∧ Le z ⟨fr 58 [(0, v0_), (1, .int .i64 (x1_)), (9, v0_), (10, .int .i64 ((x0_.length : Int))), (11, .int .i64 (q3)), (31, u60), (32, .int .i64 ((x48.length : Int))), (33, .int .i64 (q65)), (51, .bool (r94))], [], s97⟩) ?_ ?_
              · skip
                with_unfolding_all refine TE_seqY ?_
                have hM100 := MB_none s89
                with_unfolding_all refine TX_fieldAddr_p rfl rfl rfl ?_
                with_unfolding_all refine TX_load_p rfl (MC_none (hO90.obj 0 rfl)) rfl ?_
                with_unfolding_all refine TX_cmp rfl rfl rfl ?_
                with_unfolding_all refine TX_move rfl ?_
                with_unfolding_all refine TX_guard_f rfl rfl (fun hc101 => ?_) (fun hc101 => ?_)
                · skip
                  replace h93 := or_t hc101 h93
                  obtain rfl := some_s h93
                  with_unfolding_all refine TX_guard_no_f rfl rfl hc101 ?_
                  with_unfolding_all refine TX_guard_no_f rfl rfl hc101 ?_
                  with_unfolding_all refine TX_guard_no_f rfl rfl hc101 ?_
                  with_unfolding_all refine TX_guard_no_f rfl rfl hc101 ?_
                  with_unfolding_all refine TX_pick_t rfl hc101 rfl ?_
                  with_unfolding_all refine TX_move rfl ?_
                  replace h95 := or_t rfl h95
                  obtain rfl := some_s h95
                  with_unfolding_all refine TX_guard_no_f rfl rfl rfl ?_
                  with_unfolding_all refine TX_guard_no_f rfl rfl rfl ?_
                  with_unfolding_all refine TX_guard_no_f rfl rfl rfl ?_
                  with_unfolding_all refine TX_pick_t rfl rfl rfl ?_
                  with_unfolding_all refine TX_nil ?_
                  have hO102 : Own σ [] s89 [.obj id29 [u25, u27], .obj id85 [.int .i64 (x80.From), .int .i64 (x80.To), .int .i64 (x80.Part), .int .i64 (x80.Weight)], .buf u60] := hO90.front 2 rfl rfl
                  have hO103 : Own σ [] s89 [.buf u60, .obj id29 [u25, u27], .obj id85 [.int .i64 (x80.From), .int .i64 (x80.To), .int .i64 (x80.Part), .int .i64 (x80.Weight)]] := hO102.front 2 rfl rfl
                  have hO104 : Own σ [] s89 [.obj id85 [.int .i64 (x80.From), .int .i64 (x80.To), .int .i64 (x80.Part), .int .i64 (x80.Weight)], .buf u60, .obj id29 [u25, u27]] := hO103.front 2 rfl rfl
                  exact joinQ_normal ⟨s89, (hO104.sub 3 rfl), (Le_fr ⟨rfl, ⟨rfl, ⟨rfl, ⟨rfl, ⟨rfl, ⟨rfl, ⟨rfl, ⟨rfl, ⟨rfl, trivial⟩⟩⟩⟩⟩⟩⟩⟩⟩)⟩
                · skip
                  replace h93 := or_f hc101 h93
                  with_unfolding_all refine TX_fieldAddr_p rfl rfl rfl ?_
                  with_unfolding_all refine TX_guard_yes rfl rfl hc101 ?_
                  with_unfolding_all refine TX_load_p rfl (MC_none (hO90.obj 0 rfl)) rfl ?_
                  with_unfolding_all refine TX_guard_yes rfl rfl hc101 ?_
                  with_unfolding_all refine TX_fieldAddr_p rfl rfl rfl ?_
                  with_unfolding_all refine TX_guard_yes rfl rfl hc101 ?_
                  with_unfolding_all refine TX_load_p rfl (MC_none (hO90.obj 0 rfl)) rfl ?_
                  with_unfolding_all refine TX_guard_yes rfl rfl hc101 ?_
                  with_unfolding_all refine TX_cmp rfl rfl rfl ?_
                  with_unfolding_all refine TX_pick_f rfl hc101 rfl ?_
                  obtain rfl := some_s h93
                  with_unfolding_all refine TX_move rfl ?_
                  with_unfolding_all refine TX_guard_f rfl rfl (fun hc105 => ?_) (fun hc105 => ?_)
                  · skip
                    replace h95 := or_t hc105 h95
                    obtain rfl := some_s h95
                    with_unfolding_all refine TX_guard_no_f rfl rfl hc105 ?_
                    with_unfolding_all refine TX_guard_no_f rfl rfl hc105 ?_
                    with_unfolding_all refine TX_pick_t rfl hc105 rfl ?_
                    with_unfolding_all refine TX_nil ?_
                    have hO106 : Own σ [] s89 [.obj id29 [u25, u27], .obj id85 [.int .i64 (x80.From), .int .i64 (x80.To), .int .i64 (x80.Part), .int .i64 (x80.Weight)], .buf u60] := hO90.front 2 rfl rfl
                    have hO107 : Own σ [] s89 [.buf u60, .obj id29 [u25, u27], .obj id85 [.int .i64 (x80.From), .int .i64 (x80.To), .int .i64 (x80.Part), .int .i64 (x80.Weight)]] := hO106.front 2 rfl rfl
                    have hO108 : Own σ [] s89 [.obj id85 [.int .i64 (x80.From), .int .i64 (x80.To), .int .i64 (x80.Part), .int .i64 (x80.Weight)], .buf u60, .obj id29 [u25, u27]] := hO107.front 2 rfl rfl
                    exact joinQ_normal ⟨s89, (hO108.sub 3 rfl), (Le_fr ⟨rfl, ⟨rfl, ⟨rfl, ⟨rfl, ⟨rfl, ⟨rfl, ⟨rfl, ⟨rfl, ⟨rfl, trivial⟩⟩⟩⟩⟩⟩⟩⟩⟩)⟩
                  · skip
                    replace h95 := or_f hc105 h95
                    with_unfolding_all refine TX_fieldAddr_p rfl rfl rfl ?_
                    with_unfolding_all refine TX_guard_yes rfl rfl hc105 ?_
                    with_unfolding_all refine TX_load_p rfl (MC_none (hO90.obj 0 rfl)) rfl ?_
                    with_unfolding_all refine TX_guard_yes rfl rfl hc105 ?_
                    with_unfolding_all refine TX_cmp rfl rfl rfl ?_
                    with_unfolding_all refine TX_pick_f rfl hc105 rfl ?_
                    obtain rfl := some_s h95
                    with_unfolding_all refine TX_nil ?_
                    have hO109 : Own σ [] s89 [.obj id29 [u25, u27], .obj id85 [.int .i64 (x80.From), .int .i64 (x80.To), .int .i64 (x80.Part), .int .i64 (x80.Weight)], .buf u60] := hO90.front 2 rfl rfl
                    have hO110 : Own σ [] s89 [.buf u60, .obj id29 [u25, u27], .obj id85 [.int .i64 (x80.From), .int .i64 (x80.To), .int .i64 (x80.Part), .int .i64 (x80.Weight)]] := hO109.front 2 rfl rfl
                    have hO111 : Own σ [] s89 [.obj id85 [.int .i64 (x80.From), .int .i64 (x80.To), .int .i64 (x80.Part), .int .i64 (x80.Weight)], .buf u60, .obj id29 [u25, u27]] := hO110.front 2 rfl rfl
                    exact joinQ_normal ⟨s89, (hO111.sub 3 rfl), (Le_fr ⟨rfl, ⟨rfl, ⟨rfl, ⟨rfl, ⟨rfl, ⟨rfl, ⟨rfl, ⟨rfl, ⟨rfl, trivial⟩⟩⟩⟩⟩⟩⟩⟩⟩)⟩
              · skip
                rintro zj96 ⟨s97, hO98, hz99⟩
                with_unfolding_all refine thenQ_normal ?_
                refine TE_pre hz99 ?_
                with_unfolding_all refine TE_cond rfl (fun hc112 => ?_) (fun hc112 => ?_)
                · skip
                  replace hF := ite_t hc112 hF
                  with_unfolding_all refine TE_seq ?_
                  with_unfolding_all refine TE_seqY ?_
                  have hM113 := MB_none s97
                  with_unfolding_all refine TX_assign rfl ?_
                  with_unfolding_all refine TX_nil ?_
                  with_unfolding_all refine thenQ_normal ?_
                  with_unfolding_all refine TE_ret ?_
                  with_unfolding_all refine blockQ_ret ?_
                  with_unfolding_all refine thenQ_ret ?_
                  obtain rfl := some_s hF
                  exact iterQ_ret (.inr <| ⟨_, rfl, rfl, (done_any (vs := [.bool (false)]) (.inr rfl) rfl (resR_tmp rfl resR_nil) ⟨rfl, hO98.ext⟩)⟩)
                · skip
                  replace hF := ite_f hc112 hF
                  with_unfolding_all refine TE_skip ?_
                  with_unfolding_all refine blockQ_normal ?_
                  with_unfolding_all refine thenQ_normal ?_
                  with_unfolding_all refine TE_seqY ?_
                  have hM114 := MB_none s97
                  with_unfolding_all refine TX_ari rfl rfl rfl ?_
                  with_unfolding_all refine TX_move rfl ?_
                  with_unfolding_all refine TX_nil ?_
                  obtain rfl := some_s hF
                  have hO115 : Own σ [] s97 [.obj id29 [u25, u27], .obj id85 [.int .i64 (x80.From), .int .i64 (x80.To), .int .i64 (x80.Part), .int .i64 (x80.Weight)], .buf u60] := hO98.front 2 rfl rfl
                  have hO116 : Own σ [] s97 [.buf u60, .obj id29 [u25, u27], .obj id85 [.int .i64 (x80.From), .int .i64 (x80.To), .int .i64 (x80.Part), .int .i64 (x80.Weight)]] := hO115.front 2 rfl rfl
                  exact iterQ_again ⟨s97, (hO116.sub 2 rfl), (Le_fr ⟨rfl, ⟨rfl, ⟨rfl, ⟨rfl, ⟨rfl, ⟨rfl, ⟨rfl, ⟨rfl, trivial⟩⟩⟩⟩⟩⟩⟩⟩)⟩
            · skip
              replace hF := ite_f hc79 hF
              with_unfolding_all refine TE_exit ?_
              with_unfolding_all refine thenQ_exit ?_
              obtain rfl := some_s hF
              have hO117 : Own σ [] s67 [.obj id29 [u25, u27], .buf u60] := hO68.front 1 rfl rfl
              have hO118 : Own σ [] s67 [.buf u60, .obj id29 [u25, u27]] := hO117.front 1 rfl rfl
              exact iterQ_exit (.inl <| ⟨_, rfl, rfl, s67, (hO118.sub 2 rfl), (Le_fr ⟨rfl, ⟨rfl, ⟨rfl, ⟨rfl, ⟨rfl, trivial⟩⟩⟩⟩⟩)⟩)
          · skip
            rintro eq65 zq65 (⟨p69, rfl, rfl, s70, hO71, hz119⟩ | ⟨p72, rfl, rfl, hdp72⟩)
            · skip
              try dsimp only at hF
              with_unfolding_all refine blockQ_out ?_
              with_unfolding_all refine blockQ_normal ?_
              with_unfolding_all refine thenQ_normal ?_
              refine TE_pre hz119 ?_
              with_unfolding_all refine TE_seqY ?_
              have hM120 := MB_none s70
              with_unfolding_all refine TX_ari rfl rfl rfl ?_
              with_unfolding_all refine TX_move rfl ?_
              with_unfolding_all refine TX_nil ?_
              obtain rfl := some_s hF
              exact iterQ_again ⟨s70, (hO71.sub 0 rfl), (Le_fr ⟨rfl, ⟨rfl, ⟨rfl, ⟨rfl, ⟨rfl, trivial⟩⟩⟩⟩⟩)⟩
            · skip
              try dsimp only at hF
              with_unfolding_all refine blockQ_ret ?_
              with_unfolding_all refine blockQ_ret ?_
              with_unfolding_all refine thenQ_ret ?_
              obtain rfl := some_s hF
              exact iterQ_ret (.inr <| ⟨_, rfl, rfl, hdp72⟩)
    · skip
      replace hF := ite_f hc15 hF
      with_unfolding_all refine TE_exit ?_
      with_unfolding_all refine thenQ_exit ?_
      obtain rfl := some_s hF
      exact iterQ_exit (.inl <| ⟨_, rfl, rfl, s5, (hO6.sub 0 rfl), (Le_fr ⟨rfl, ⟨rfl, trivial⟩⟩)⟩)
  · skip
    rintro eq3 zq3 (⟨p7, rfl, rfl, s8, hO9, hz121⟩ | ⟨p10, rfl, rfl, hdp10⟩)
    · skip
      try dsimp only at hF
      with_unfolding_all refine blockQ_out ?_
      with_unfolding_all refine thenQ_normal ?_
      refine TE_pre hz121 ?_
      with_unfolding_all refine TE_seq ?_
      with_unfolding_all refine TE_seqY ?_
      have hM122 := MB_none s8
      with_unfolding_all refine TX_move rfl ?_
      with_unfolding_all refine TY_len rfl rfl rfl rfl h0_ rfl ?_
      with_unfolding_all refine TX_move rfl ?_
      with_unfolding_all refine TX_cmp rfl rfl rfl ?_
      with_unfolding_all refine TX_assign rfl ?_
      with_unfolding_all refine TX_nil ?_
      with_unfolding_all refine thenQ_normal ?_
      with_unfolding_all refine TE_ret ?_
      obtain rfl := some_s hF
      exact done_any (vs := [.bool ((decide ((x0_.length : Int) ≤ x1_)))]) (.inr rfl) rfl (resR_tmp rfl resR_nil) ⟨rfl, hO9.ext⟩
    · skip
      try dsimp only at hF
      with_unfolding_all refine blockQ_ret ?_
      with_unfolding_all refine thenQ_ret ?_
      obtain rfl := some_s hF
      exact hdp10
theorem match_Mild_1_1_1_ok {x0_ : match_Span} {c0_ : match_Span} {y : Bool} (hF : F.match_Mild_1_1_1 x0_ c0_ = some y) {v0_ : AV} {σ : Mem} (h0_ : e_match_Span.rel v0_ x0_) {d0_ : Nat} {w0_ : AV} (k0_ : e_match_Span.rel w0_ c0_) (m0_ : σ[d0_]? = some (.cells w0_.cells)) :
    CallE Try.prog 58 [v0_, .ptr d0_ 0] σ (fun v σ' => eB.rel v y ∧ Ext σ σ') := by
  unfold F.match_Mild_1_1_1 at hF
  obtain rfl := h0_
  obtain rfl := k0_
  refine CallE_of Try.func58 rfl Try.ntmps58 (by simp) ?_
  have hO0 := Own.start σ
  with_unfolding_all refine TE_seq ?_
  with_unfolding_all refine TE_seqY ?_
  have hM1 := MB_none σ
  with_unfolding_all refine TY_box hO0 hM1 rfl rfl ?_
  rintro id2 s3 (hO4 : Own σ [] s3 [.obj id2 [.int .i64 (x0_.From), .int .i64 (x0_.To), .int .i64 (x0_.Part), .int .i64 (x0_.Weight)]]) hM5
  with_unfolding_all refine TX_assign rfl ?_
  with_unfolding_all refine TX_nil ?_
  with_unfolding_all refine thenQ_normal ?_
  with_unfolding_all refine TE_seq ?_
  obtain ⟨r6, h7, hF⟩ := bind_s hF
  with_unfolding_all refine TE_seqY ?_
  have hM8 := MB_none s3
  with_unfolding_all refine TX_fieldAddr_p rfl rfl rfl ?_
  with_unfolding_all refine TX_load_p rfl (MC_none (hO4.obj 0 rfl)) rfl ?_
  with_unfolding_all refine TX_fieldAddr_p rfl rfl rfl ?_
  with_unfolding_all refine TX_load_p rfl (MC_none (hO4.get0 m0_ (List.not_mem_nil))) rfl ?_
  with_unfolding_all refine TX_cmp rfl rfl rfl ?_
  with_unfolding_all refine TX_move rfl ?_
  with_unfolding_all refine TX_guard_t rfl rfl (fun hc9 => ?_) (fun hc9 => ?_)
  · skip
    replace h7 := and_t hc9 h7
    with_unfolding_all refine TX_fieldAddr_p rfl rfl rfl ?_
    with_unfolding_all refine TX_guard_yes rfl rfl hc9 ?_
    with_unfolding_all refine TX_load_p rfl (MC_none (hO4.get0 m0_ (List.not_mem_nil))) rfl ?_
    with_unfolding_all refine TX_guard_yes rfl rfl hc9 ?_
    with_unfolding_all refine TX_fieldAddr_p rfl rfl rfl ?_
    with_unfolding_all refine TX_guard_yes rfl rfl hc9 ?_
    with_unfolding_all refine TX_load_p rfl (MC_none (hO4.obj 0 rfl)) rfl ?_
    with_unfolding_all refine TX_guard_yes rfl rfl hc9 ?_
    with_unfolding_all refine TX_cmp rfl rfl rfl ?_
    with_unfolding_all refine TX_pick_t rfl hc9 rfl ?_
    obtain rfl := some_s h7
    with_unfolding_all refine TX_assign rfl ?_
    with_unfolding_all refine TX_nil ?_
    with_unfolding_all refine thenQ_normal ?_
    with_unfolding_all refine TE_ret ?_
    obtain rfl := some_s hF
    exact done_any (vs := [.bool ((decide (c0_.To ≤ x0_.To)))]) (.inr rfl) rfl (resR_tmp rfl resR_nil) ⟨rfl, hO4.ext⟩
  · skip
    replace h7 := and_f hc9 h7
    obtain rfl := some_s h7
    with_unfolding_all refine TX_guard_no_t rfl rfl hc9 ?_
    with_unfolding_all refine TX_guard_no_t rfl rfl hc9 ?_
    with_unfolding_all refine TX_guard_no_t rfl rfl hc9 ?_
    with_unfolding_all refine TX_guard_no_t rfl rfl hc9 ?_
    with_unfolding_all refine TX_pick_f rfl hc9 rfl ?_
    with_unfolding_all refine TX_assign rfl ?_
    with_unfolding_all refine TX_nil ?_
    with_unfolding_all refine thenQ_normal ?_
    with_unfolding_all refine TE_ret ?_
    obtain rfl := some_s hF
    exact done_any (vs := [.bool (false)]) (.inr rfl) rfl (resR_tmp rfl resR_nil) ⟨rfl, hO4.ext⟩
theorem slices_IndexFunc_match_Span_match_Span_ok {x0_ : (List match_Span)} {x1_ : (match_Span → Option Bool)} {y : Int} (hF : F.slices_IndexFunc_match_Span_match_Span x0_ x1_ = some y) {v0_ : AV} {v1_ : AV} {σ : Mem} (h0_ : (RS e_match_Span) v0_ x0_) (h1_ : FnOK1 Try.prog v1_ σ e_match_Span.rel eB.rel x1_)  :
    CallE Try.prog 94 [v0_, v1_] σ (fun v σ' => (eI .i64).rel v y ∧ Ext σ σ') := by
  unfold F.slices_IndexFunc_match_Span_match_Span at hF
  have h1 := h1_
  obtain ⟨g2, fs3, cs4, rfl, hen5, hcall6⟩ := h1_
  refine CallE_of Try.func94 rfl Try.ntmps94 (by simp) ?_
  have hO0 := Own.start σ
  with_unfolding_all refine TE_seq ?_
  with_unfolding_all refine TE_seqY ?_
  have hM7 := MB_none σ
  with_unfolding_all refine TX_assign rfl ?_
  with_unfolding_all refine TX_nil ?_
  with_unfolding_all refine thenQ_normal ?_
  with_unfolding_all refine TE_seq ?_
  with_unfolding_all refine TE_seq ?_
  with_unfolding_all refine TE_seqY ?_
  have hM8 := MB_none σ
  with_unfolding_all refine TX_move rfl ?_
  with_unfolding_all refine TY_len rfl rfl rfl rfl h0_ rfl ?_
  with_unfolding_all refine TX_move rfl ?_
  with_unfolding_all refine TX_nil ?_
  with_unfolding_all refine thenQ_normal ?_
  with_unfolding_all refine TE_block ?_
  obtain ⟨a17, h18, hF⟩ := bind_s hF
  refine TE_iter (f := F.slices_IndexFunc_match_Span_match_Span_s1 x0_ x1_) (s0 := 0) (a := a17) (fun (q9 : Int) z => ∃ (s11 : Mem), Own σ [] s11 [] ∧ Le z ⟨fr 19 [(0, v0_), (1, (.fn (.func g2) fs3 cs4)), (7, .int .i64 ((x0_.length : Int))), (8, .int .i64 (q9))], [], s11⟩) (fun (a : (Unit ⊕ Int)) e z => (∃ p13 : Unit, a = (.inl p13) ∧ e = .exit 0 ∧ ∃ (s14 : Mem), Own σ [] s14 [] ∧ Le z ⟨fr 19 [], [], s14⟩) ∨ (∃ p16 : Int, a = (.inr (p16)) ∧ e = .ret ∧ doneQ Try.prog Try.f94 (fun v σ' => (eI .i64).rel v p16 ∧ Ext σ σ') .ret z)) h18 ?_ ?_ ?_
  · skip
    exact ⟨σ, (hO0.sub 0 rfl), (Le_fr ⟨rfl, ⟨rfl, ⟨rfl, ⟨rfl, trivial⟩⟩⟩⟩)⟩
  · skip
    clear hF
    rintro q9 zq9 r10 ⟨s11, hO12, hz19⟩ hF
    unfold F.slices_IndexFunc_match_Span_match_Span_s1 at hF
    refine TE_pre hz19 ?_
    with_unfolding_all refine TE_seq ?_
    with_unfolding_all refine TE_seqY ?_
    have hM20 := MB_none s11
    with_unfolding_all refine TX_cmp rfl rfl rfl ?_
    with_unfolding_all refine TX_nil ?_
    with_unfolding_all refine thenQ_normal ?_
    with_unfolding_all refine TE_seq ?_
    with_unfolding_all refine TE_cond rfl (fun hc21 => ?_) (fun hc21 => ?_)
    · skip
      replace hF := ite_t hc21 hF
      with_unfolding_all refine TE_skip ?_
      with_unfolding_all refine thenQ_normal ?_
      with_unfolding_all refine TE_seq ?_
      with_unfolding_all refine TE_block ?_
      with_unfolding_all refine TE_seq ?_
      with_unfolding_all refine TE_seqY ?_
      have hM22 := MB_none s11
      with_unfolding_all refine TX_move rfl ?_
      with_unfolding_all refine TX_assign rfl ?_
      with_unfolding_all refine TX_nil ?_
      with_unfolding_all refine thenQ_normal ?_
      with_unfolding_all refine TE_seq ?_
      obtain ⟨x23, h24, hF⟩ := bind_s hF
      obtain ⟨x25, h26, hF⟩ := bind_s hF
      with_unfolding_all refine TE_seqY ?_
      have hM27 := MB_none s11
      with_unfolding_all refine TX_move rfl ?_
      with_unfolding_all refine TX_move rfl ?_
      with_unfolding_all refine TX_move rfl ?_
      with_unfolding_all refine TY_idx (E := e_match_Span) rfl rfl rfl h0_ rfl h24 ?_
      intro u28 h29
      obtain rfl := h29
      with_unfolding_all refine TX_load_c rfl rfl ?_
      have hc30 : CallE Try.prog g2 (fs3 ++ [.agg [.int .i64 (x23.From), .int .i64 (x23.To), .int .i64 (x23.Part), .int .i64 (x23.Weight)]] ++ cs4) s11 _ := hcall6 _ hO12.ext _ _ _ rfl h26
      with_unfolding_all refine TY_call hM27 rfl hen5 hc30 ?_
      intro v31 s35 hv32 hX33 hM34
      have hO36 := hO12.ext_call hX33
      obtain rfl := hv32
      with_unfolding_all refine TX_nil ?_
      with_unfolding_all refine thenQ_normal ?_
      with_unfolding_all refine TE_cond rfl (fun hc37 => ?_) (fun hc37 => ?_)
      · skip
        replace hF := ite_t hc37 hF
        with_unfolding_all refine TE_seq ?_
        with_unfolding_all refine TE_seqY ?_
        have hM38 := MB_none s35
        with_unfolding_all refine TX_move rfl ?_
        with_unfolding_all refine TX_assign rfl ?_
        with_unfolding_all refine TX_nil ?_
        with_unfolding_all refine thenQ_normal ?_
        with_unfolding_all refine TE_ret ?_
        with_unfolding_all refine blockQ_ret ?_
        with_unfolding_all refine thenQ_ret ?_
        obtain rfl := some_s hF
        exact iterQ_ret (.inr <| ⟨_, rfl, rfl, (done_any (vs := [.int .i64 (q9)]) (.inr rfl) rfl (resR_tmp rfl resR_nil) ⟨rfl, hO36.ext⟩)⟩)
      · skip
        replace hF := ite_f hc37 hF
        with_unfolding_all refine TE_skip ?_
        with_unfolding_all refine blockQ_normal ?_
        with_unfolding_all refine thenQ_normal ?_
        with_unfolding_all refine TE_seqY ?_
        have hM39 := MB_none s35
        with_unfolding_all refine TX_ari rfl rfl rfl ?_
        with_unfolding_all refine TX_move rfl ?_
        with_unfolding_all refine TX_nil ?_
        obtain rfl := some_s hF
        exact iterQ_again ⟨s35, (hO36.sub 0 rfl), (Le_fr ⟨rfl, ⟨rfl, ⟨rfl, ⟨rfl, trivial⟩⟩⟩⟩)⟩
    · skip
      replace hF := ite_f hc21 hF
      with_unfolding_all refine TE_exit ?_
      with_unfolding_all refine thenQ_exit ?_
      obtain rfl := some_s hF
      exact iterQ_exit (.inl <| ⟨_, rfl, rfl, s11, (hO12.sub 0 rfl), (Le_fr trivial)⟩)
  · skip
    rintro eq9 zq9 (⟨p13, rfl, rfl, s14, hO15, hz40⟩ | ⟨p16, rfl, rfl, hdp16⟩)
    · skip
      try dsimp only at hF
      with_unfolding_all refine blockQ_out ?_
      with_unfolding_all refine thenQ_normal ?_
      refine TE_pre hz40 ?_
      with_unfolding_all refine TE_seq ?_
      with_unfolding_all refine TE_seqY ?_
      have hM41 := MB_none s14
      with_unfolding_all refine TX_assign rfl ?_
      with_unfolding_all refine TX_nil ?_
      with_unfolding_all refine thenQ_normal ?_
      with_unfolding_all refine TE_ret ?_
      obtain rfl := some_s hF
      exact done_any (vs := [.int .i64 ((-1))]) (.inr rfl) rfl (resR_tmp rfl resR_nil) ⟨rfl, hO15.ext⟩
    · skip
      try dsimp only at hF
      with_unfolding_all refine blockQ_ret ?_
      with_unfolding_all refine thenQ_ret ?_
      obtain rfl := some_s hF
      exact hdp16
theorem slices_ContainsFunc_match_Span_match_Span_ok {x0_ : (List match_Span)} {x1_ : (match_Span → Option Bool)} {y : Bool} (hF : F.slices_ContainsFunc_match_Span_match_Span x0_ x1_ = some y) {v0_ : AV} {v1_ : AV} {σ : Mem} (h0_ : (RS e_match_Span) v0_ x0_) (h1_ : FnOK1 Try.prog v1_ σ e_match_Span.rel eB.rel x1_)  :
    CallE Try.prog 57 [v0_, v1_] σ (fun v σ' => eB.rel v y ∧ Ext σ σ') := by
  unfold F.slices_ContainsFunc_match_Span_match_Span at hF
  have h1 := h1_
  obtain ⟨g2, fs3, cs4, rfl, hen5, hcall6⟩ := h1_
  refine CallE_of Try.func57 rfl Try.ntmps57 (by simp) ?_
  have hO0 := Own.start σ
  with_unfolding_all refine TE_seq ?_
  with_unfolding_all refine TE_seqY ?_
  have hM7 := MB_none σ
  with_unfolding_all refine TX_assign rfl ?_
  with_unfolding_all refine TX_nil ?_
  with_unfolding_all refine thenQ_normal ?_
  with_unfolding_all refine TE_seq ?_
  obtain ⟨x8, h9, hF⟩ := bind_s hF
  with_unfolding_all refine TE_seqY ?_
  have hM10 := MB_none σ
  with_unfolding_all refine TX_move rfl ?_
  with_unfolding_all refine TX_move rfl ?_
  have hc11 : CallE Try.prog 94 [v0_, (.fn (.func g2) fs3 cs4)] σ _ := slices_IndexFunc_match_Span_match_Span_ok h9 h0_ (FnOK1.mono h1 hO0.ext)
  with_unfolding_all refine TY_call hM10 rfl en94 hc11 ?_
  intro v12 s16 hv13 hX14 hM15
  have hO17 := hO0.ext_call hX14
  obtain rfl := hv13
  with_unfolding_all refine TX_cmp rfl rfl rfl ?_
  with_unfolding_all refine TX_assign rfl ?_
  with_unfolding_all refine TX_nil ?_
  with_unfolding_all refine thenQ_normal ?_
  with_unfolding_all refine TE_ret ?_
  obtain rfl := some_s hF
  exact done_any (vs := [.bool ((decide (x8 ≥ 0)))]) (.inr rfl) rfl (resR_tmp rfl resR_nil) ⟨rfl, hO17.ext⟩
theorem match_Mild_1_1_ok {x0_ : match_Match} {c0_ : match_Span} {y : Bool} (hF : F.match_Mild_1_1 x0_ c0_ = some y) {v0_ : AV} {σ : Mem} (h0_ : e_match_Match.rel v0_ x0_) {d0_ : Nat} {w0_ : AV} (k0_ : e_match_Span.rel w0_ c0_) (m0_ : σ[d0_]? = some (.cells w0_.cells)) :
    CallE Try.prog 56 [v0_, .ptr d0_ 0] σ (fun v σ' => eB.rel v y ∧ Ext σ σ') := by
  unfold F.match_Mild_1_1 at hF
  obtain ⟨u1, u3, rfl, h2, h4⟩ := h0_
  obtain rfl := k0_
  refine CallE_of Try.func56 rfl Try.ntmps56 (by simp) ?_
  have hO0 := Own.start σ
  with_unfolding_all refine TE_seq ?_
  with_unfolding_all refine TE_seqY ?_
  have hM5 := MB_none σ
  with_unfolding_all refine TY_box hO0 hM5 rfl rfl ?_
  rintro id6 s7 (hO8 : Own σ [] s7 [.obj id6 [u1, u3]]) hM9
  with_unfolding_all refine TX_assign rfl ?_
  with_unfolding_all refine TX_nil ?_
  with_unfolding_all refine thenQ_normal ?_
  with_unfolding_all refine TE_seq ?_
  obtain ⟨x10, h11, hF⟩ := bind_s hF
  with_unfolding_all refine TE_seqY ?_
  have hM12 := MB_none s7
  with_unfolding_all refine TX_fieldAddr_p rfl rfl rfl ?_
  with_unfolding_all refine TX_load_p rfl (MC_none (hO8.obj 0 rfl)) rfl ?_
  with_unfolding_all refine TX_makeFunc rfl rfl ?_
  have hc19 : CallE Try.prog 57 [u1, .fn (.func 58) [] [.ptr d0_ 0]] s7 _ := slices_ContainsFunc_match_Span_match_Span_ok h11 h2 ⟨58, [], [.ptr d0_ 0], rfl, en58, fun _ hX13 v14 x15 y17 h16 hy18 => match_Mild_1_1_1_ok hy18 h16 rfl (hX13.get (hO8.get0 m0_ (List.not_mem_nil)))⟩
  with_unfolding_all refine TY_call hM12 rfl en57 hc19 ?_
  intro v20 s24 hv21 hX22 hM23
  have hO25 := hO8.ext_call hX22
  obtain rfl := hv21
  with_unfolding_all refine TX_assign rfl ?_
  with_unfolding_all refine TX_nil ?_
  with_unfolding_all refine thenQ_normal ?_
  with_unfolding_all refine TE_ret ?_
  obtain rfl := some_s hF
  exact done_any (vs := [.bool (x10)]) (.inr rfl) rfl (resR_tmp rfl resR_nil) ⟨rfl, hO25.ext⟩
theorem match_Mild_1_ok {x0_ : match_Span} {c0_ : (List match_Match)} {y : Bool} (hF : F.match_Mild_1 x0_ c0_ = some y) {v0_ : AV} {σ : Mem} (h0_ : e_match_Span.rel v0_ x0_) {d0_ : Nat} {w0_ : AV} (k0_ : (RS e_match_Match) w0_ c0_) (m0_ : σ[d0_]? = some (.cells w0_.cells)) :
    CallE Try.prog 54 [v0_, .ptr d0_ 0] σ (fun v σ' => eB.rel v y ∧ Ext σ σ') := by
  unfold F.match_Mild_1 at hF
  obtain rfl := h0_
  rw [RS.cells k0_] at m0_
  refine CallE_of Try.func54 rfl Try.ntmps54 (by simp) ?_
  have hO0 := Own.start σ
  with_unfolding_all refine TE_seq ?_
  with_unfolding_all refine TE_seqY ?_
  have hM1 := MB_none σ
  with_unfolding_all refine TY_box hO0 hM1 rfl rfl ?_
  rintro id2 s3 (hO4 : Own σ [] s3 [.obj id2 [.int .i64 (x0_.From), .int .i64 (x0_.To), .int .i64 (x0_.Part), .int .i64 (x0_.Weight)]]) hM5
  with_unfolding_all refine TX_assign rfl ?_
  with_unfolding_all refine TX_nil ?_
  with_unfolding_all refine thenQ_normal ?_
  with_unfolding_all refine TE_seq ?_
  obtain ⟨x6, h7, hF⟩ := bind_s hF
  with_unfolding_all refine TE_seqY ?_
  have hM8 := MB_none s3
  with_unfolding_all refine TX_load_p rfl (MC_none (hO4.get0 m0_ (List.not_mem_nil))) rfl ?_
  with_unfolding_all refine TX_makeFunc rfl rfl ?_
  have hc15 : CallE Try.prog 55 [w0_, .fn (.func 56) [] [.ptr id2 0]] s3 _ := slices_ContainsFunc_match_Match_match_Match_ok h7 k0_ ⟨56, [], [.ptr id2 0], rfl, en56, fun _ hX9 v10 x11 y13 h12 hy14 => match_Mild_1_1_ok hy14 h12 rfl (hX9.get (hO4.obj 0 rfl))⟩
  with_unfolding_all refine TY_call hM8 rfl en55 hc15 ?_
  intro v16 s20 hv17 hX18 hM19
  have hO21 := hO4.ext_call hX18
  obtain rfl := hv17
  with_unfolding_all refine TX_assign rfl ?_
  with_unfolding_all refine TX_nil ?_
  with_unfolding_all refine thenQ_normal ?_
  with_unfolding_all refine TE_ret ?_
  obtain rfl := some_s hF
  exact done_any (vs := [.bool (x6)]) (.inr rfl) rfl (resR_tmp rfl resR_nil) ⟨rfl, hO21.ext⟩
theorem match_Mild_2_ok {x0_ : match_Match} {c0_ : (match_Span → Option Bool)} {y : (match_Match × Bool)} (hF : F.match_Mild_2 x0_ c0_ = some y) {v0_ : AV} {σ : Mem} (h0_ : e_match_Match.rel v0_ x0_) {d0_ : Nat} {w0_ : AV} (k0_ : FnOK1 Try.prog w0_ σ e_match_Span.rel eB.rel c0_) (m0_ : σ[d0_]? = some (.cells w0_.cells)) :
    CallE Try.prog 60 [v0_, .ptr d0_ 0] σ (fun v σ' => (R2 e_match_Match.rel eB.rel) v y ∧ Ext σ σ') := by
  unfold F.match_Mild_2 at hF
  obtain ⟨u1, u3, rfl, h2, h4⟩ := h0_
  have h5 := k0_
  obtain ⟨g6, fs7, cs8, rfl, hen9, hcall10⟩ := k0_
  refine CallE_of Try.func60 rfl Try.ntmps60 (by simp) ?_
  have hO0 := Own.start σ
  with_unfolding_all refine TE_seq ?_
  with_unfolding_all refine TE_seqY ?_
  have hM11 := MB_none σ
  with_unfolding_all refine TY_box hO0 hM11 rfl rfl ?_
  rintro id12 s13 (hO14 : Own σ [] s13 [.obj id12 [u1, u3]]) hM15
  with_unfolding_all refine TY_alloc hO14 hM15 rfl rfl ?_
  rintro id16 s17 (hO18 : Own σ [] s17 [.obj id16 [.nils, .nils], .obj id12 [u1, u3]]) hM19
  with_unfolding_all refine TX_assign rfl ?_
  with_unfolding_all refine TX_nil ?_
  with_unfolding_all refine thenQ_normal ?_
  with_unfolding_all refine TE_seq ?_
  obtain ⟨x20, h21, hF⟩ := bind_s hF
  have hB22 : Bs [(id12, [u1, u3]), (d0_, [(.fn (.func g6) fs7 cs8)])] s17 := Bs.cons (hO18.obj 1 rfl) (Bs.cons (hO18.get0 m0_ (List.not_mem_nil)) (Bs.nil _))
  with_unfolding_all refine TE_drawY [(id12, [u1, u3]), (d0_, [(.fn (.func g6) fs7 cs8)])] (by with_unfolding_all rfl) (by kernel_rfl) hB22 ?_
  have hM23 := MB_some hB22
  with_unfolding_all refine TX_load_p rfl (MC_some 0 rfl) rfl ?_
  with_unfolding_all refine TX_fieldAddr_p rfl rfl rfl ?_
  with_unfolding_all refine TX_load_p rfl (MC_some 0 rfl) rfl ?_
  with_unfolding_all refine TX_load_p rfl (MC_some 1 rfl) rfl ?_
  have hc24 : CallE Try.prog 57 [u1, (.fn (.func g6) fs7 cs8)] s17 _ := slices_ContainsFunc_match_Span_match_Span_ok h21 h2 (FnOK1.mono h5 hO18.ext)
  with_unfolding_all refine TY_call hM23 rfl en57 hc24 ?_
  intro v25 s29 hv26 hX27 hM28
  have hO30 := hO18.ext_call hX27
  obtain rfl := hv26
  with_unfolding_all refine TX_not rfl ?_
  with_unfolding_all refine TY_store (v := .agg [u1, u3]) (vc := [u1, u3]) hO30 hM28 (MNe.cons (hO30.ne 1 0 rfl rfl (by decide)) (MNe.cons (hO30.ne0 m0_ (List.not_mem_nil) 0 rfl) (MNe.nil _))) rfl rfl rfl rfl (by with_unfolding_all exact Nat.le_of_ble_eq_true rfl) (ones_cons (RS.one1 h2) (ones_cons (RS.one1 h4) ones_nil)) rfl ?_
  rintro s31 (hO32 : Own σ [] s31 [.obj id16 [u1, u3], .obj id12 [u1, u3]]) hM33
  with_unfolding_all refine TX_assign rfl ?_
  with_unfolding_all refine TX_nil ?_
  with_unfolding_all refine thenQ_normal ?_
  with_unfolding_all refine TE_ret ?_
  obtain rfl := some_s hF
  exact done_any (vs := [.agg [u1, u3], .bool ((!x20))]) (.inr rfl) rfl (resR_cell rfl (hO32.obj 0 rfl) rfl (resR_tmp rfl resR_nil)) ⟨⟨_, _, rfl, ⟨u1, u3, rfl, h2, h4⟩, rfl⟩, hO32.ext⟩
theorem slices_Clone_match_Span_match_Span_ok {x0_ : (List match_Span)} {y : (List match_Span)} (hF : F.slices_Clone_match_Span_match_Span x0_ = some y) {v0_ : AV} {σ : Mem} (h0_ : RS e_match_Span v0_ x0_) : CallE Try.prog 77 [v0_] σ (fun v σ' => RS e_match_Span v y ∧ Own σ [] σ' [.buf v]) := by
  unfold F.slices_Clone_match_Span_match_Span at hF
  refine CallE_of Try.func77 rfl Try.ntmps77 (by simp) ?_
  have hO0 := Own.start σ
  have hM0 := MB_none σ
  have hnil : RS e_match_Span (.sl [] .full) [] := RS.of trivial
  rcases h0_ with ⟨rfl, rfl⟩ | ⟨vs, tk, rfl, ha⟩
  · obtain rfl : y = [] := by simpa [lapp] using hF.symm
    refine TE_seq ?_
    with_reducible refine TE_seqY ?_
    with_reducible refine TX_assign (by with_unfolding_all rfl) ?_
    with_reducible refine TX_nil ?_
    with_reducible refine thenQ_normal ?_
    refine TE_seq ?_
    refine TE_seq ?_
    with_reducible refine TE_seqY ?_
    with_reducible refine TX_move (by with_unfolding_all rfl) ?_
    with_reducible refine TY_nilnil (by with_unfolding_all rfl) (by with_unfolding_all rfl) (by with_unfolding_all rfl) (.inl ⟨rfl, rfl⟩) ?_
    with_reducible refine TX_nil ?_
    with_reducible refine thenQ_normal ?_
    with_reducible refine TE_cond (by with_unfolding_all rfl) (fun hc => ?_) (fun hc => ?_)
    · refine TE_seq ?_
      with_reducible refine TE_seqY ?_
      with_reducible refine TX_assign (by with_unfolding_all rfl) ?_
      with_reducible refine TX_nil ?_
      with_reducible refine thenQ_normal ?_
      with_reducible refine TE_ret ?_
      with_reducible refine thenQ_ret ?_
      exact done_any (.inr rfl) rfl (resR_tmp (by with_unfolding_all rfl) resR_nil) ⟨RS.nil _, hO0.buf0⟩
    · cases hc
  · refine TE_seq ?_
    with_reducible refine TE_seqY ?_
    with_reducible refine TX_assign (by with_unfolding_all rfl) ?_
    with_reducible refine TX_nil ?_
    with_reducible refine thenQ_normal ?_
    refine TE_seq ?_
    refine TE_seq ?_
    with_reducible refine TE_seqY ?_
    with_reducible refine TX_move (by with_unfolding_all rfl) ?_
    with_reducible refine TY_nilcmp (b := false) (by with_unfolding_all rfl) ?_
    with_reducible refine TX_nil ?_
    with_reducible refine thenQ_normal ?_
    with_reducible refine TE_cond (by with_unfolding_all rfl) (fun hc => ?_) (fun hc => ?_)
    · cases hc
    · with_reducible refine TE_skip ?_
      with_reducible refine thenQ_normal ?_
      refine TE_seq ?_
      with_reducible refine TE_seqY ?_
      with_reducible refine TX_buildSlice (by with_unfolding_all rfl) (by with_unfolding_all rfl) (by with_unfolding_all rfl) (by with_unfolding_all rfl) (by with_unfolding_all exact ⟨rfl, Nat.succ_ne_zero _, rfl, Nat.le_of_ble_eq_true rfl, rfl⟩) ?_
      with_reducible refine TX_move (by with_unfolding_all rfl) ?_
      with_reducible refine TY_append appT25_25 (hO0.bufFull []) hM0 (by with_unfolding_all rfl) (by with_unfolding_all rfl) (by with_unfolding_all rfl) (by with_unfolding_all rfl) hnil (by with_unfolding_all rfl) (RS.of ha) hF ?_
      rintro u s hu hO hM
      with_reducible refine TX_assign (by with_unfolding_all rfl) ?_
      with_reducible refine TX_nil ?_
      with_reducible refine thenQ_normal ?_
      with_reducible refine TE_ret ?_
      exact done_any (.inr rfl) rfl (resR_tmp (by with_unfolding_all rfl) resR_nil) ⟨hu, hO⟩
theorem match_keep_ok {x0_ : (List match_Match)} {x1_ : (match_Match → Option (match_Match × Bool))} {y : (List match_Match)} (hF : F.match_keep x0_ x1_ = some y) {v0_ : AV} {v1_ : AV} {σ : Mem} (h0_ : (RS e_match_Match) v0_ x0_) (h1_ : FnOK1 Try.prog v1_ σ e_match_Match.rel (R2 e_match_Match.rel eB.rel) x1_)  :
    CallE Try.prog 59 [v0_, v1_] σ (fun v σ' => (RS e_match_Match) v y ∧ Ext σ σ') := by
  unfold F.match_keep at hF
  have h1 := h1_
  obtain ⟨g2, fs3, cs4, rfl, hen5, hcall6⟩ := h1_
  refine CallE_of Try.func59 rfl Try.ntmps59 (by simp) ?_
  have hO0 := Own.start σ
  with_unfolding_all refine TE_seq ?_
  with_unfolding_all refine TE_seqY ?_
  have hM7 := MB_none σ
  with_unfolding_all refine TX_assign rfl ?_
  with_unfolding_all refine TX_nil ?_
  with_unfolding_all refine thenQ_normal ?_
  with_unfolding_all refine TE_seq ?_
  with_unfolding_all refine TE_seqY ?_
  have hM8 := MB_none σ
  with_unfolding_all refine TX_assign rfl ?_
  with_unfolding_all refine TX_nil ?_
  with_unfolding_all refine thenQ_normal ?_
  with_unfolding_all refine TE_seq ?_
  with_unfolding_all refine TE_seq ?_
  with_unfolding_all refine TE_seqY ?_
  have hM9 := MB_none σ
  with_unfolding_all refine TX_move rfl ?_
  with_unfolding_all refine TY_len rfl rfl rfl rfl h0_ rfl ?_
  with_unfolding_all refine TX_move rfl ?_
  with_unfolding_all refine TX_nil ?_
  with_unfolding_all refine thenQ_normal ?_
  with_unfolding_all refine TE_block ?_
  obtain ⟨p16, h22, hF⟩ := bind_s hF
  refine TE_iter (f := F.match_keep_s1 x0_ x1_) (s0 := ([], 0)) (a := p16) (fun (q10 : ((List match_Match) × Int)) z => ∃ (u12 : AV) (s14 : Mem), RS e_match_Match u12 q10.1 ∧ Own σ [] s14 [.buf u12] ∧ Le z ⟨fr 35 [(1, (.fn (.func g2) fs3 cs4)), (5, u12), (10, v0_), (11, .int .i64 ((x0_.length : Int))), (12, .int .i64 (q10.2))], [], s14⟩) (fun (p16 : (List match_Match)) e z => (e = .exit 0 ∧ ∃ (u17 : AV) (s19 : Mem), RS e_match_Match u17 p16 ∧ Own σ [] s19 [.buf u17] ∧ Le z ⟨fr 35 [(5, u17)], [], s19⟩)) h22 ?_ ?_ ?_
  · skip
    have hO23 : Own σ [] σ [.buf .nils] := hO0.buf0
    exact ⟨.nils, σ, (RS.nil e_match_Match), (hO23.sub 1 rfl), (Le_fr ⟨rfl, ⟨rfl, ⟨rfl, ⟨rfl, ⟨rfl, trivial⟩⟩⟩⟩⟩)⟩
  · skip
    clear hF
    rintro q10 zq10 r11 ⟨u12, s14, h13, hO15, hz24⟩ hF
    unfold F.match_keep_s1 at hF
    refine TE_pre hz24 ?_
    with_unfolding_all refine TE_seq ?_
    with_unfolding_all refine TE_seqY ?_
    have hM25 := MB_none s14
    with_unfolding_all refine TX_cmp rfl rfl rfl ?_
    with_unfolding_all refine TX_nil ?_
    with_unfolding_all refine thenQ_normal ?_
    with_unfolding_all refine TE_seq ?_
    with_unfolding_all refine TE_cond rfl (fun hc26 => ?_) (fun hc26 => ?_)
    · skip
      replace hF := ite_t hc26 hF
      with_unfolding_all refine TE_skip ?_
      with_unfolding_all refine thenQ_normal ?_
      with_unfolding_all refine TE_seq ?_
      with_unfolding_all refine TE_block ?_
      with_unfolding_all refine TE_seq ?_
      obtain ⟨x27, h28, hF⟩ := bind_s hF
      with_unfolding_all refine TE_seqY ?_
      have hM33 := MB_none s14
      with_unfolding_all refine TY_idx (E := e_match_Match) rfl rfl rfl h0_ rfl h28 ?_
      intro u34 h35
      obtain ⟨u36, u38, rfl, h37, h39⟩ := h35
      with_unfolding_all refine TX_load_c rfl rfl ?_
      with_unfolding_all refine TY_alloc hO15 hM33 rfl rfl ?_
      rintro id40 s41 (hO42 : Own σ [] s41 [.obj id40 [.nils, .nils], .buf u12]) hM43
      with_unfolding_all refine TY_store (v := .agg [u36, u38]) (vc := [u36, u38]) hO42 hM43 (MNe.none _) rfl rfl rfl rfl (by with_unfolding_all exact Nat.le_of_ble_eq_true rfl) (ones_cons (RS.one1 h37) (ones_cons (RS.one1 h39) ones_nil)) rfl ?_
      rintro s44 (hO45 : Own σ [] s44 [.obj id40 [u36, u38], .buf u12]) hM46
      with_unfolding_all refine TX_nil ?_
      with_unfolding_all refine thenQ_normal ?_
      with_unfolding_all refine TE_seq ?_
      obtain ⟨x47, h48, hF⟩ := bind_s hF
      with_unfolding_all refine TE_seqY ?_
      have hM49 := MB_none s44
      with_unfolding_all refine TX_move rfl ?_
      with_unfolding_all refine TX_load_p rfl (MC_none (hO45.obj 0 rfl)) rfl ?_
      have hc50 : CallE Try.prog g2 (fs3 ++ [.agg [u36, u38]] ++ cs4) s44 _ := hcall6 _ hO45.ext _ _ _ ⟨u36, u38, rfl, h37, h39⟩ h48
      with_unfolding_all refine TY_call hM49 rfl hen5 hc50 ?_
      intro v51 s55 hv52 hX53 hM54
      have hO56 := hO45.ext_call hX53
      obtain ⟨v57, v58, rfl, h59, h60⟩ := hv52
      obtain ⟨u61, u63, rfl, h62, h64⟩ := h59
      obtain rfl := h60
      with_unfolding_all refine TX_move rfl ?_
      with_unfolding_all refine TX_extract rfl rfl ?_
      with_unfolding_all refine TX_extract rfl rfl ?_
      with_unfolding_all refine TY_alloc hO56 hM54 rfl rfl ?_
      rintro id65 s66 (hO67 : Own σ [] s66 [.obj id65 [.nils, .nils], .obj id40 [u36, u38], .buf u12]) hM68
      with_unfolding_all refine TY_store (v := .agg [u61, u63]) (vc := [u61, u63]) hO67 hM68 (MNe.none _) rfl rfl rfl rfl (by with_unfolding_all exact Nat.le_of_ble_eq_true rfl) (ones_cons (RS.one1 h62) (ones_cons (RS.one1 h64) ones_nil)) rfl ?_
      rintro s69 (hO70 : Own σ [] s69 [.obj id65 [u61, u63], .obj id40 [u36, u38], .buf u12]) hM71
      with_unfolding_all refine TX_assign rfl ?_
      with_unfolding_all refine TX_nil ?_
      with_unfolding_all refine thenQ_normal ?_
      with_unfolding_all refine TE_seq ?_
      with_unfolding_all refine TE_seqY ?_
      have hM72 := MB_none s69
      with_unfolding_all refine TX_move rfl ?_
      with_unfolding_all refine TX_nil ?_
      with_unfolding_all refine thenQ_normal ?_
      with_unfolding_all refine TE_cond rfl (fun hc73 => ?_) (fun hc73 => ?_)
      · skip
        replace hF := ite_t hc73 hF
        obtain ⟨x74, h75, hF⟩ := bind_s hF
        obtain ⟨x76, h77, hF⟩ := bind_s hF
        obtain ⟨x78, h79, hF⟩ := bind_s hF
        have hB80 : Bs [(id65, [u61, u63])] s69 := Bs.cons (hO70.obj 0 rfl) (Bs.nil _)
        with_unfolding_all refine TE_drawY [(id65, [u61, u63])] (by with_unfolding_all rfl) (by kernel_rfl) hB80 ?_
        have hM81 := MB_some hB80
        with_unfolding_all refine TX_move rfl ?_
        with_unfolding_all refine TX_fieldAddr_p rfl rfl rfl ?_
        with_unfolding_all refine TX_load_p rfl (MC_some 0 rfl) rfl ?_
        have hc82 : CallE Try.prog 77 [u61] s69 _ := slices_Clone_match_Span_match_Span_ok h75 h62
        with_unfolding_all refine TY_callN hM81 rfl en77 hc82 (fun _ _ h => ⟨_, h.2⟩) ?_
        rintro v83 s87 ⟨hv84, hX85⟩ hM86
        have hO88 : Own σ [] s87 [.buf v83, .obj id65 [u61, u63], .obj id40 [u36, u38], .buf u12] := Own.call (A := []) hO70 hX85
        with_unfolding_all refine TX_fieldAddr_p rfl rfl rfl ?_
        with_unfolding_all refine TX_load_p rfl (MC_some 0 rfl) rfl ?_
        have hc89 : CallE Try.prog 77 [u63] s87 _ := slices_Clone_match_Span_match_Span_ok h77 h64
        with_unfolding_all refine TY_callN hM86 rfl en77 hc89 (fun _ _ h => ⟨_, h.2⟩) ?_
        rintro v90 s94 ⟨hv91, hX92⟩ hM93
        have hO95 : Own σ [] s94 [.buf v90, .buf v83, .obj id65 [u61, u63], .obj id40 [u36, u38], .buf u12] := Own.call (A := []) hO88 hX92
        with_unfolding_all refine TY_build [v83, v90] rfl rfl rfl (by with_unfolding_all exact Fill.cons rfl (RS.cells hv84) rfl (by with_unfolding_all exact Nat.le_of_ble_eq_true rfl) (Fill.cons rfl (RS.cells hv91) rfl (by with_unfolding_all exact Nat.le_of_ble_eq_true rfl) (Fill.nil _))) (by with_unfolding_all rfl) ?_
        have h96 : All2 e_match_Match.rel ([.agg [v83, v90]] : List AV) ([(F.match_Match.mk x74 x76)] : (List match_Match)) := ⟨⟨v83, v90, rfl, hv84, hv91⟩, trivial⟩
        with_unfolding_all refine TY_buildSlice rfl rfl rfl rfl rfl h96 rfl (by decide) (by with_unfolding_all exact Nat.le_of_ble_eq_true rfl) ?_
        have h97 : RS e_match_Match (.sl [.agg [v83, v90]] .full) ([(F.match_Match.mk x74 x76)] : (List match_Match)) := RS.of h96
        have hO98 : Own σ [] s94 [.buf u12, .buf v90, .buf v83, .obj id65 [u61, u63], .obj id40 [u36, u38]] := hO95.front 4 rfl rfl
        with_unfolding_all refine TY_append appT22_22 hO98 hM93 rfl rfl rfl rfl h13 rfl h97 h79 ?_
        rintro u99 s101 (h100 : RS e_match_Match u99 x78) (hO102 : Own σ [] s101 [.buf u99, .buf v90, .buf v83, .obj id65 [u61, u63], .obj id40 [u36, u38]]) hM103
        with_unfolding_all refine TX_assign rfl ?_
        with_unfolding_all refine TX_nil ?_
        with_unfolding_all refine blockQ_normal ?_
        with_unfolding_all refine thenQ_normal ?_
        with_unfolding_all refine TE_seqY ?_
        have hM104 := MB_none s101
        with_unfolding_all refine TX_ari rfl rfl rfl ?_
        with_unfolding_all refine TX_move rfl ?_
        with_unfolding_all refine TX_nil ?_
        obtain rfl := some_s hF
        exact iterQ_again ⟨u99, s101, h100, (hO102.sub 1 rfl), (Le_fr ⟨rfl, ⟨rfl, ⟨rfl, ⟨rfl, ⟨rfl, trivial⟩⟩⟩⟩⟩)⟩
      · skip
        replace hF := ite_f hc73 hF
        with_unfolding_all refine TE_skip ?_
        with_unfolding_all refine blockQ_normal ?_
        with_unfolding_all refine thenQ_normal ?_
        with_unfolding_all refine TE_seqY ?_
        have hM105 := MB_none s69
        with_unfolding_all refine TX_ari rfl rfl rfl ?_
        with_unfolding_all refine TX_move rfl ?_
        with_unfolding_all refine TX_nil ?_
        obtain rfl := some_s hF
        have hO106 : Own σ [] s69 [.buf u12, .obj id65 [u61, u63], .obj id40 [u36, u38]] := hO70.front 2 rfl rfl
        exact iterQ_again ⟨u12, s69, h13, (hO106.sub 1 rfl), (Le_fr ⟨rfl, ⟨rfl, ⟨rfl, ⟨rfl, ⟨rfl, trivial⟩⟩⟩⟩⟩)⟩
    · skip
      replace hF := ite_f hc26 hF
      with_unfolding_all refine TE_exit ?_
      with_unfolding_all refine thenQ_exit ?_
      obtain rfl := some_s hF
      exact iterQ_exit (⟨rfl, u12, s14, h13, (hO15.sub 1 rfl), (Le_fr ⟨rfl, trivial⟩)⟩)
  · skip
    rintro eq10 zq10 (⟨rfl, u17, s19, h18, hO20, hz107⟩)
    with_unfolding_all refine blockQ_out ?_
    with_unfolding_all refine thenQ_normal ?_
    refine TE_pre hz107 ?_
    with_unfolding_all refine TE_seq ?_
    with_unfolding_all refine TE_seqY ?_
    have hM108 := MB_none s19
    with_unfolding_all refine TX_move rfl ?_
    with_unfolding_all refine TX_assign rfl ?_
    with_unfolding_all refine TX_nil ?_
    with_unfolding_all refine thenQ_normal ?_
    with_unfolding_all refine TE_ret ?_
    obtain rfl := some_s hF
    exact done_any (vs := [u17]) (.inr rfl) rfl (resR_tmp rfl resR_nil) ⟨h18, hO20.ext⟩
theorem match_Mild_ok {x0_ : (List match_Match)} {x1_ : (List match_Match)} {y : (List match_Match)} (hF : F.match_Mild x0_ x1_ = some y) {v0_ : AV} {v1_ : AV} {σ : Mem} (h0_ : (RS e_match_Match) v0_ x0_) (h1_ : (RS e_match_Match) v1_ x1_)  :
    CallE Try.prog 17 [v0_, v1_] σ (fun v σ' => (RS e_match_Match) v y ∧ Ext σ σ') := by
  unfold F.match_Mild at hF
  refine CallE_of Try.func17 rfl Try.ntmps17 (by simp) ?_
  have hO0 := Own.start σ
  with_unfolding_all refine TE_seq ?_
  with_unfolding_all refine TE_seqY ?_
  have hM1 := MB_none σ
  with_unfolding_all refine TY_box hO0 hM1 rfl (RS.cells h1_) ?_
  rintro id2 s3 (hO4 : Own σ [] s3 [.obj id2 [v1_]]) hM5
  with_unfolding_all refine TX_assign rfl ?_
  with_unfolding_all refine TX_nil ?_
  with_unfolding_all refine thenQ_normal ?_
  with_unfolding_all refine TE_seq ?_
  with_unfolding_all refine TE_seqY ?_
  have hM6 := MB_none s3
  with_unfolding_all refine TX_makeFunc rfl rfl ?_
  with_unfolding_all refine TY_alloc hO4 hM6 rfl rfl ?_
  rintro id7 s8 (hO9 : Own σ [] s8 [.obj id7 [.nilf], .obj id2 [v1_]]) hM10
  with_unfolding_all refine TY_store (v := .fn (.func 54) [] [.ptr id2 0]) (vc := [.fn (.func 54) [] [.ptr id2 0]]) hO9 hM10 (MNe.none _) rfl rfl rfl rfl (by with_unfolding_all exact Nat.le_of_ble_eq_true rfl) (ones_cons rfl ones_nil) rfl ?_
  rintro s11 (hO12 : Own σ [] s11 [.obj id7 [.fn (.func 54) [] [.ptr id2 0]], .obj id2 [v1_]]) hM13
  with_unfolding_all refine TX_nil ?_
  with_unfolding_all refine thenQ_normal ?_
  with_unfolding_all refine TE_seq ?_
  obtain ⟨x14, h15, hF⟩ := bind_s hF
  with_unfolding_all refine TE_seqY ?_
  have hM16 := MB_none s11
  with_unfolding_all refine TX_move rfl ?_
  with_unfolding_all refine TX_makeFunc rfl rfl ?_
  have hc29 : CallE Try.prog 59 [v0_, .fn (.func 60) [] [.ptr id7 0]] s11 _ := match_keep_ok h15 h0_ ⟨60, [], [.ptr id7 0], rfl, en60, fun _ hX17 v24 x25 y27 h26 hy28 => match_Mild_2_ok hy28 h26 ⟨54, [], [.ptr id2 0], rfl, en54, fun _ hX18 v19 x20 y22 h21 hy23 => match_Mild_1_ok hy23 h21 h1_ (by rw [RS.cells h1_]; exact (hX17.trans hX18).get (hO12.obj 1 rfl))⟩ (hX17.get (hO12.obj 0 rfl))⟩
  with_unfolding_all refine TY_call hM16 rfl en59 hc29 ?_
  intro v30 s34 hv31 hX32 hM33
  have hO35 := hO12.ext_call hX32
  with_unfolding_all refine TX_assign rfl ?_
  with_unfolding_all refine TX_nil ?_
  with_unfolding_all refine thenQ_normal ?_
  with_unfolding_all refine TE_ret ?_
  obtain rfl := some_s hF
  exact done_any (vs := [v30]) (.inr rfl) rfl (resR_tmp rfl resR_nil) ⟨hv31, hO35.ext⟩
end Go.Proofs.Ytihbdelgoapeoaa.K
