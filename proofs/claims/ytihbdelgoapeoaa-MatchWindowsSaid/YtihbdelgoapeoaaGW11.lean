/- Walks. Printed. -/
import Derived.Test.YtihbdelgoapeoaaGW10
namespace Go.Proofs.Ytihbdelgoapeoaa.K
open Go Go.RowKit F
set_option maxRecDepth 100000
set_option maxHeartbeats 4000000
set_option linter.unusedVariables false
set_option linter.unusedSimpArgs false
theorem law12_MatchWindows_2_ok {x0_ : Int} {c0_ : (List match_Match)} {c1_ : ((List match_Span) → Option Int)} {y : (List match_Match)} (hF : F.law12_MatchWindows_2 x0_ c0_ c1_ = some y) {v0_ : AV} {σ : Mem} (h0_ : (eI .i64).rel v0_ x0_) {d0_ : Nat} {w0_ : AV} (k0_ : (RS e_match_Match) w0_ c0_) (m0_ : σ[d0_]? = some (.cells w0_.cells)) {d1_ : Nat} {w1_ : AV} (k1_ : FnOK1 Try.prog w1_ σ (RS e_match_Span) (eI .i64).rel c1_) (m1_ : σ[d1_]? = some (.cells w1_.cells)) :
    CallE Try.prog 37 [v0_, .ptr d0_ 0, .ptr d1_ 0] σ (fun v σ' => (RS e_match_Match) v y ∧ Ext σ σ') := by
  unfold F.law12_MatchWindows_2 at hF
  obtain rfl := h0_
  rw [RS.cells k0_] at m0_
  have h1 := k1_
  obtain ⟨g2, fs3, cs4, rfl, hen5, hcall6⟩ := k1_
  refine CallE_of Try.func37 rfl Try.ntmps37 (by simp) ?_
  have hO0 := Own.start σ
  with_unfolding_all refine TE_seq ?_
  with_unfolding_all refine TE_seqY ?_
  have hM7 := MB_none σ
  with_unfolding_all refine TY_box hO0 hM7 rfl rfl ?_
  rintro id8 s9 (hO10 : Own σ [] s9 [.obj id8 [.int .i64 (x0_)]]) hM11
  with_unfolding_all refine TX_assign rfl ?_
  with_unfolding_all refine TX_nil ?_
  with_unfolding_all refine thenQ_normal ?_
  with_unfolding_all refine TE_seq ?_
  obtain ⟨x12, h13, hF⟩ := bind_s hF
  with_unfolding_all refine TE_seqY ?_
  have hM14 := MB_none s9
  with_unfolding_all refine TX_load_p rfl (MC_none (hO10.get0 m0_ (List.not_mem_nil))) rfl ?_
  with_unfolding_all refine TX_makeFunc rfl rfl ?_
  with_unfolding_all refine TX_makeFunc rfl rfl ?_
  have hc30 : CallE Try.prog 29 [w0_, .fn (.func 38) [] [.ptr d1_ 0, .ptr id8 0], .fn (.func 39) [] [.ptr d1_ 0, .ptr id8 0]] s9 _ := law12_filter_ok h13 k0_ ⟨38, [], [.ptr d1_ 0, .ptr id8 0], rfl, en38, fun _ hX15 v16 x17 y19 h18 hy20 => law12_MatchWindows_2_1_ok hy20 h18 (FnOK1.mono (FnOK1.mono h1 hO10.ext) hX15) (hX15.get (hO10.get0 m1_ (List.not_mem_nil))) rfl (hX15.get (hO10.obj 0 rfl))⟩ ⟨39, [], [.ptr d1_ 0, .ptr id8 0], rfl, en39, fun _ hX21 v22 x23 v25 x26 y28 h24 h27 hy29 => law12_MatchWindows_2_2_ok hy29 h24 h27 (FnOK1.mono (FnOK1.mono h1 hO10.ext) hX21) (hX21.get (hO10.get0 m1_ (List.not_mem_nil))) rfl (hX21.get (hO10.obj 0 rfl))⟩
  with_unfolding_all refine TY_call hM14 rfl en29 hc30 ?_
  intro v31 s35 hv32 hX33 hM34
  have hO36 := hO10.ext_call hX33
  with_unfolding_all refine TX_assign rfl ?_
  with_unfolding_all refine TX_nil ?_
  with_unfolding_all refine thenQ_normal ?_
  with_unfolding_all refine TE_ret ?_
  obtain rfl := some_s hF
  exact done_any (vs := [v31]) (.inr rfl) rfl (resR_tmp rfl resR_nil) ⟨hv32, hO36.ext⟩
theorem law12_MatchWindows_3_ok {x0_ : (List match_Span)} {c0_ : match_Text} {c1_ : Int} {y : Bool} (hF : F.law12_MatchWindows_3 x0_ c0_ c1_ = some y) {v0_ : AV} {σ : Mem} (h0_ : (RS e_match_Span) v0_ x0_) {d0_ : Nat} {w0_ : AV} (k0_ : e_match_Text.rel w0_ c0_) (m0_ : σ[d0_]? = some (.cells w0_.cells)) {d1_ : Nat} {w1_ : AV} (k1_ : (eI .i64).rel w1_ c1_) (m1_ : σ[d1_]? = some (.cells w1_.cells)) :
    CallE Try.prog 41 [v0_, .ptr d0_ 0, .ptr d1_ 0] σ (fun v σ' => eB.rel v y ∧ Ext σ σ') := by
  unfold F.law12_MatchWindows_3 at hF
  obtain ⟨u1, u3, rfl, h2, h4⟩ := k0_
  obtain rfl := k1_
  refine CallE_of Try.func41 rfl Try.ntmps41 (by simp) ?_
  have hO0 := Own.start σ
  with_unfolding_all refine TE_seq ?_
  with_unfolding_all refine TE_seqY ?_
  have hM5 := MB_none σ
  with_unfolding_all refine TX_assign rfl ?_
  with_unfolding_all refine TX_nil ?_
  with_unfolding_all refine thenQ_normal ?_
  with_unfolding_all refine TE_seq ?_
  with_unfolding_all refine TE_seq ?_
  with_unfolding_all refine TE_seqY ?_
  have hM6 := MB_none σ
  with_unfolding_all refine TX_move rfl ?_
  with_unfolding_all refine TY_len rfl rfl rfl rfl h0_ rfl ?_
  with_unfolding_all refine TX_move rfl ?_
  with_unfolding_all refine TX_nil ?_
  with_unfolding_all refine thenQ_normal ?_
  with_unfolding_all refine TE_block ?_
  obtain ⟨a15, h16, hF⟩ := bind_s hF
  refine TE_iter (f := F.law12_MatchWindows_3_s1 x0_ c0_ c1_) (s0 := 0) (a := a15) (fun (q7 : Int) z => ∃ (s9 : Mem), Own σ [] s9 [] ∧ Le z ⟨fr 54 [(0, v0_), (1, .ptr d0_ 0), (2, .ptr d1_ 0), (9, v0_), (10, .int .i64 ((x0_.length : Int))), (11, .int .i64 (q7))], [], s9⟩) (fun (a : (Unit ⊕ Bool)) e z => (∃ p11 : Unit, a = (.inl p11) ∧ e = .exit 0 ∧ ∃ (s12 : Mem), Own σ [] s12 [] ∧ Le z ⟨fr 54 [], [], s12⟩) ∨ (∃ p14 : Bool, a = (.inr (p14)) ∧ e = .ret ∧ doneQ Try.prog Try.f41 (fun v σ' => eB.rel v p14 ∧ Ext σ σ') .ret z)) h16 ?_ ?_ ?_
  · skip
    exact ⟨σ, (hO0.sub 0 rfl), (Le_fr ⟨rfl, ⟨rfl, ⟨rfl, ⟨rfl, ⟨rfl, ⟨rfl, trivial⟩⟩⟩⟩⟩⟩)⟩
  · skip
    clear hF
    rintro q7 zq7 r8 ⟨s9, hO10, hz17⟩ hF
    unfold F.law12_MatchWindows_3_s1 at hF
    refine TE_pre hz17 ?_
    with_unfolding_all refine TE_seq ?_
    with_unfolding_all refine TE_seqY ?_
    have hM18 := MB_none s9
    with_unfolding_all refine TX_cmp rfl rfl rfl ?_
    with_unfolding_all refine TX_nil ?_
    with_unfolding_all refine thenQ_normal ?_
    with_unfolding_all refine TE_seq ?_
    with_unfolding_all refine TE_cond rfl (fun hc19 => ?_) (fun hc19 => ?_)
    · skip
      replace hF := ite_t hc19 hF
      with_unfolding_all refine TE_skip ?_
      with_unfolding_all refine thenQ_normal ?_
      with_unfolding_all refine TE_seq ?_
      with_unfolding_all refine TE_block ?_
      with_unfolding_all refine TE_seq ?_
      obtain ⟨x20, h21, hF⟩ := bind_s hF
      with_unfolding_all refine TE_seqY ?_
      have hM22 := MB_none s9
      with_unfolding_all refine TX_move rfl ?_
      with_unfolding_all refine TY_idx (E := e_match_Span) rfl rfl rfl h0_ rfl h21 ?_
      intro u23 h24
      obtain rfl := h24
      with_unfolding_all refine TX_load_c rfl rfl ?_
      with_unfolding_all refine TY_alloc hO10 hM22 rfl rfl ?_
      rintro id25 s26 (hO27 : Own σ [] s26 [.obj id25 [.int .i64 (0), .int .i64 (0), .int .i64 (0), .int .i64 (0)]]) hM28
      with_unfolding_all refine TX_assign rfl ?_
      with_unfolding_all refine TY_store (v := .agg [.int .i64 (x20.From), .int .i64 (x20.To), .int .i64 (x20.Part), .int .i64 (x20.Weight)]) (vc := [.int .i64 (x20.From), .int .i64 (x20.To), .int .i64 (x20.Part), .int .i64 (x20.Weight)]) hO27 hM28 (MNe.none _) rfl rfl rfl rfl (by with_unfolding_all exact Nat.le_of_ble_eq_true rfl) (ones_cons rfl (ones_cons rfl (ones_cons rfl (ones_cons rfl ones_nil)))) rfl ?_
      rintro s29 (hO30 : Own σ [] s29 [.obj id25 [.int .i64 (x20.From), .int .i64 (x20.To), .int .i64 (x20.Part), .int .i64 (x20.Weight)]]) hM31
      with_unfolding_all refine TX_nil ?_
      with_unfolding_all refine thenQ_normal ?_
      with_unfolding_all refine TE_seq ?_
      with_unfolding_all refine TE_seqY ?_
      have hM32 := MB_none s29
      with_unfolding_all refine TX_move rfl ?_
      with_unfolding_all refine TY_len rfl rfl rfl rfl h0_ rfl ?_
      with_unfolding_all refine TX_move rfl ?_
      with_unfolding_all refine TX_nil ?_
      with_unfolding_all refine thenQ_normal ?_
      with_unfolding_all refine TE_block ?_
      obtain ⟨a41, h42, hF⟩ := bind_s hF
      refine TE_iter (f := F.law12_MatchWindows_3_s2 x0_ c0_ c1_ q7 x20) (s0 := 0) (a := a41) (fun (q33 : Int) z => ∃ (s35 : Mem), Own σ [] s35 [.obj id25 [.int .i64 (x20.From), .int .i64 (x20.To), .int .i64 (x20.Part), .int .i64 (x20.Weight)]] ∧ Le z ⟨fr 54 [(0, v0_), (1, .ptr d0_ 0), (2, .ptr d1_ 0), (5, .int .i64 (q7)), (6, .ptr id25 0), (9, v0_), (10, .int .i64 ((x0_.length : Int))), (11, .int .i64 (q7)), (16, v0_), (17, .int .i64 ((x0_.length : Int))), (18, .int .i64 (q33))], [], s35⟩) (fun (a : (Unit ⊕ Bool)) e z => (∃ p37 : Unit, a = (.inl p37) ∧ e = .exit 2 ∧ ∃ (s38 : Mem), Own σ [] s38 [.obj id25 [.int .i64 (x20.From), .int .i64 (x20.To), .int .i64 (x20.Part), .int .i64 (x20.Weight)]] ∧ Le z ⟨fr 54 [(0, v0_), (1, .ptr d0_ 0), (2, .ptr d1_ 0), (9, v0_), (10, .int .i64 ((x0_.length : Int))), (11, .int .i64 (q7))], [], s38⟩) ∨ (∃ p40 : Bool, a = (.inr (p40)) ∧ e = .ret ∧ doneQ Try.prog Try.f41 (fun v σ' => eB.rel v p40 ∧ Ext σ σ') .ret z)) h42 ?_ ?_ ?_
      · skip
        exact ⟨s29, (hO30.sub 1 rfl), (Le_fr ⟨rfl, ⟨rfl, ⟨rfl, ⟨rfl, ⟨rfl, ⟨rfl, ⟨rfl, ⟨rfl, ⟨rfl, ⟨rfl, ⟨rfl, trivial⟩⟩⟩⟩⟩⟩⟩⟩⟩⟩⟩)⟩
      · skip
        clear hF
        rintro q33 zq33 r34 ⟨s35, hO36, hz43⟩ hF
        unfold F.law12_MatchWindows_3_s2 at hF
        refine TE_pre hz43 ?_
        with_unfolding_all refine TE_seq ?_
        with_unfolding_all refine TE_seqY ?_
        have hM44 := MB_none s35
        with_unfolding_all refine TX_cmp rfl rfl rfl ?_
        with_unfolding_all refine TX_nil ?_
        with_unfolding_all refine thenQ_normal ?_
        with_unfolding_all refine TE_seq ?_
        with_unfolding_all refine TE_cond rfl (fun hc45 => ?_) (fun hc45 => ?_)
        · skip
          replace hF := ite_t hc45 hF
          with_unfolding_all refine TE_skip ?_
          with_unfolding_all refine thenQ_normal ?_
          with_unfolding_all refine TE_seq ?_
          with_unfolding_all refine TE_block ?_
          with_unfolding_all refine TE_seq ?_
          obtain ⟨x46, h47, hF⟩ := bind_s hF
          with_unfolding_all refine TE_seqY ?_
          have hM48 := MB_none s35
          with_unfolding_all refine TX_move rfl ?_
          with_unfolding_all refine TY_idx (E := e_match_Span) rfl rfl rfl h0_ rfl h47 ?_
          intro u49 h50
          obtain rfl := h50
          with_unfolding_all refine TX_load_c rfl rfl ?_
          with_unfolding_all refine TY_alloc hO36 hM48 rfl rfl ?_
          rintro id51 s52 (hO53 : Own σ [] s52 [.obj id51 [.int .i64 (0), .int .i64 (0), .int .i64 (0), .int .i64 (0)], .obj id25 [.int .i64 (x20.From), .int .i64 (x20.To), .int .i64 (x20.Part), .int .i64 (x20.Weight)]]) hM54
          with_unfolding_all refine TX_assign rfl ?_
          with_unfolding_all refine TY_store (v := .agg [.int .i64 (x46.From), .int .i64 (x46.To), .int .i64 (x46.Part), .int .i64 (x46.Weight)]) (vc := [.int .i64 (x46.From), .int .i64 (x46.To), .int .i64 (x46.Part), .int .i64 (x46.Weight)]) hO53 hM54 (MNe.none _) rfl rfl rfl rfl (by with_unfolding_all exact Nat.le_of_ble_eq_true rfl) (ones_cons rfl (ones_cons rfl (ones_cons rfl (ones_cons rfl ones_nil)))) rfl ?_
          rintro s55 (hO56 : Own σ [] s55 [.obj id51 [.int .i64 (x46.From), .int .i64 (x46.To), .int .i64 (x46.Part), .int .i64 (x46.Weight)], .obj id25 [.int .i64 (x20.From), .int .i64 (x20.To), .int .i64 (x20.Part), .int .i64 (x20.Weight)]]) hM57
          with_unfolding_all refine TX_nil ?_
          with_unfolding_all refine thenQ_normal ?_
          with_unfolding_all refine TE_seq ?_
          obtain ⟨r62, h63, hF⟩ := bind_s hF
          obtain ⟨r68, h69, hF⟩ := bind_s hF
          refine TE_cutQ (fun z => ∃ (s71 : Mem), Own σ [] s71 [.obj id51 [.int .i64 (x46.From), .int .i64 (x46.To), .int .i64 (x46.Part), .int .i64 (x46.Weight)], .obj id25 [.int .i64 (x20.From), .int .i64 (x20.To), .int .i64 (x20.Part), .int .i64 (x20.Weight)]] ∧ Le z ⟨fr 54 [(0, v0_), (1, .ptr d0_ 0), (2, .ptr d1_ 0), (5, .int .i64 (q7)), (6, .ptr id25 0), (9, v0_), (10, .int .i64 ((x0_.length : Int))), (11, .int .i64 (q7)), (16, v0_), (17, .int .i64 ((x0_.length : Int))), (18, .int .i64 (q33)), (51, .bool (r68))], [], s71⟩) ?_ ?_
          · skip
            have hB74 : Bs [(d0_, [.int .i64 (c0_.From), .int .i64 (c0_.To), u1, u3]), (d1_, [.int .i64 (c1_)]), (id25, [.int .i64 (x20.From), .int .i64 (x20.To), .int .i64 (x20.Part), .int .i64 (x20.Weight)]), (id51, [.int .i64 (x46.From), .int .i64 (x46.To), .int .i64 (x46.Part), .int .i64 (x46.Weight)])] s55 := Bs.cons (hO56.get0 m0_ (List.not_mem_nil)) (Bs.cons (hO56.get0 m1_ (List.not_mem_nil)) (Bs.cons (hO56.obj 1 rfl) (Bs.cons (hO56.obj 0 rfl) (Bs.nil _))))
            with_unfolding_all refine TE_drawY [(d0_, [.int .i64 (c0_.From), .int .i64 (c0_.To), u1, u3]), (d1_, [.int .i64 (c1_)]), (id25, [.int .i64 (x20.From), .int .i64 (x20.To), .int .i64 (x20.Part), .int .i64 (x20.Weight)]), (id51, [.int .i64 (x46.From), .int .i64 (x46.To), .int .i64 (x46.Part), .int .i64 (x46.Weight)])] (by with_unfolding_all rfl) (by kernel_rfl) hB74 ?_
            have hM75 := MB_some hB74
            with_unfolding_all refine TX_move rfl ?_
            with_unfolding_all refine TX_move rfl ?_
            with_unfolding_all refine TX_cmp rfl rfl rfl ?_
            with_unfolding_all refine TX_move rfl ?_
            with_unfolding_all refine TX_guard_t rfl rfl (fun hc76 => ?_) (fun hc76 => ?_)
            · skip
              replace h63 := ite_t hc76 h63
              obtain ⟨x58, h59, h63⟩ := bind_s h63
              obtain ⟨x60, h61, h63⟩ := bind_s h63
              with_unfolding_all refine TX_load_p rfl (MC_some 0 rfl) rfl ?_
              with_unfolding_all refine TX_guard_yes rfl rfl hc76 ?_
              with_unfolding_all refine TX_load_p rfl (MC_some 1 rfl) rfl ?_
              with_unfolding_all refine TX_guard_yes rfl rfl hc76 ?_
              with_unfolding_all refine TX_fieldAddr_p rfl rfl rfl ?_
              with_unfolding_all refine TX_guard_yes rfl rfl hc76 ?_
              with_unfolding_all refine TX_load_p rfl (MC_some 2 rfl) rfl ?_
              with_unfolding_all refine TX_guard_yes rfl rfl hc76 ?_
              have hc77 : CallE Try.prog 36 [.agg [.int .i64 (c0_.From), .int .i64 (c0_.To), u1, u3], .int .i64 (c1_), .int .i64 (x20.From)] s55 _ := law12_rank_ok h59 ⟨u1, u3, rfl, h2, h4⟩ rfl rfl
              with_unfolding_all refine TY_call hM75 rfl en36 hc77 ?_
              intro v78 s82 hv79 hX80 hM81
              have hO83 := hO56.ext_call hX80
              obtain rfl := hv79
              with_unfolding_all refine TX_guard_yes rfl rfl hc76 ?_
              with_unfolding_all refine TX_load_p rfl (MC_some 0 rfl) rfl ?_
              with_unfolding_all refine TX_guard_yes rfl rfl hc76 ?_
              with_unfolding_all refine TX_load_p rfl (MC_some 1 rfl) rfl ?_
              with_unfolding_all refine TX_guard_yes rfl rfl hc76 ?_
              with_unfolding_all refine TX_fieldAddr_p rfl rfl rfl ?_
              with_unfolding_all refine TX_guard_yes rfl rfl hc76 ?_
              with_unfolding_all refine TX_load_p rfl (MC_some 3 rfl) rfl ?_
              with_unfolding_all refine TX_guard_yes rfl rfl hc76 ?_
              have hc84 : CallE Try.prog 36 [.agg [.int .i64 (c0_.From), .int .i64 (c0_.To), u1, u3], .int .i64 (c1_), .int .i64 (x46.To)] s82 _ := law12_rank_ok h61 ⟨u1, u3, rfl, h2, h4⟩ rfl rfl
              with_unfolding_all refine TY_call hM81 rfl en36 hc84 ?_
              intro v85 s89 hv86 hX87 hM88
              have hO90 := hO83.ext_call hX87
              obtain rfl := hv86
              with_unfolding_all refine TX_guard_yes rfl rfl hc76 ?_
              with_unfolding_all refine TX_cmp rfl rfl rfl ?_
              with_unfolding_all refine TX_pick_t rfl hc76 rfl ?_
              obtain rfl := some_s h63
              with_unfolding_all refine TX_move rfl ?_
              with_unfolding_all refine TX_guard_t rfl rfl (fun hc91 => ?_) (fun hc91 => ?_)
              · skip
                replace h69 := ite_t hc91 h69
                obtain ⟨x64, h65, h69⟩ := bind_s h69
                obtain ⟨x66, h67, h69⟩ := bind_s h69
                with_unfolding_all refine TX_load_p rfl (MC_some 0 rfl) rfl ?_
                with_unfolding_all refine TX_guard_yes rfl rfl hc91 ?_
                with_unfolding_all refine TX_load_p rfl (MC_some 1 rfl) rfl ?_
                with_unfolding_all refine TX_guard_yes rfl rfl hc91 ?_
                with_unfolding_all refine TX_fieldAddr_p rfl rfl rfl ?_
                with_unfolding_all refine TX_guard_yes rfl rfl hc91 ?_
                with_unfolding_all refine TX_load_p rfl (MC_some 3 rfl) rfl ?_
                with_unfolding_all refine TX_guard_yes rfl rfl hc91 ?_
                have hc92 : CallE Try.prog 36 [.agg [.int .i64 (c0_.From), .int .i64 (c0_.To), u1, u3], .int .i64 (c1_), .int .i64 (x46.From)] s89 _ := law12_rank_ok h65 ⟨u1, u3, rfl, h2, h4⟩ rfl rfl
                with_unfolding_all refine TY_call hM88 rfl en36 hc92 ?_
                intro v93 s97 hv94 hX95 hM96
                have hO98 := hO90.ext_call hX95
                obtain rfl := hv94
                with_unfolding_all refine TX_guard_yes rfl rfl hc91 ?_
                with_unfolding_all refine TX_load_p rfl (MC_some 0 rfl) rfl ?_
                with_unfolding_all refine TX_guard_yes rfl rfl hc91 ?_
                with_unfolding_all refine TX_load_p rfl (MC_some 1 rfl) rfl ?_
                with_unfolding_all refine TX_guard_yes rfl rfl hc91 ?_
                with_unfolding_all refine TX_fieldAddr_p rfl rfl rfl ?_
                with_unfolding_all refine TX_guard_yes rfl rfl hc91 ?_
                with_unfolding_all refine TX_load_p rfl (MC_some 2 rfl) rfl ?_
                with_unfolding_all refine TX_guard_yes rfl rfl hc91 ?_
                have hc99 : CallE Try.prog 36 [.agg [.int .i64 (c0_.From), .int .i64 (c0_.To), u1, u3], .int .i64 (c1_), .int .i64 (x20.To)] s97 _ := law12_rank_ok h67 ⟨u1, u3, rfl, h2, h4⟩ rfl rfl
                with_unfolding_all refine TY_call hM96 rfl en36 hc99 ?_
                intro v100 s104 hv101 hX102 hM103
                have hO105 := hO98.ext_call hX102
                obtain rfl := hv101
                with_unfolding_all refine TX_guard_yes rfl rfl hc91 ?_
                with_unfolding_all refine TX_cmp rfl rfl rfl ?_
                with_unfolding_all refine TX_pick_t rfl hc91 rfl ?_
                obtain rfl := some_s h69
                with_unfolding_all refine TX_nil ?_
                have hO106 : Own σ [] s104 [.obj id25 [.int .i64 (x20.From), .int .i64 (x20.To), .int .i64 (x20.Part), .int .i64 (x20.Weight)], .obj id51 [.int .i64 (x46.From), .int .i64 (x46.To), .int .i64 (x46.Part), .int .i64 (x46.Weight)]] := hO105.front 1 rfl rfl
                have hO107 : Own σ [] s104 [.obj id51 [.int .i64 (x46.From), .int .i64 (x46.To), .int .i64 (x46.Part), .int .i64 (x46.Weight)], .obj id25 [.int .i64 (x20.From), .int .i64 (x20.To), .int .i64 (x20.Part), .int .i64 (x20.Weight)]] := hO106.front 1 rfl rfl
                exact joinQ_normal ⟨s104, (hO107.sub 2 rfl), (Le_fr ⟨rfl, ⟨rfl, ⟨rfl, ⟨rfl, ⟨rfl, ⟨rfl, ⟨rfl, ⟨rfl, ⟨rfl, ⟨rfl, ⟨rfl, ⟨rfl, trivial⟩⟩⟩⟩⟩⟩⟩⟩⟩⟩⟩⟩)⟩
              · skip
                replace h69 := ite_f hc91 h69
                obtain rfl := some_s h69
                with_unfolding_all refine TX_guard_no_t rfl rfl hc91 ?_
                with_unfolding_all refine TX_guard_no_t rfl rfl hc91 ?_
                with_unfolding_all refine TX_guard_no_t rfl rfl hc91 ?_
                with_unfolding_all refine TX_guard_no_t rfl rfl hc91 ?_
                with_unfolding_all refine TX_guard_no_t rfl rfl hc91 ?_
                with_unfolding_all refine TX_guard_no_t rfl rfl hc91 ?_
                with_unfolding_all refine TX_guard_no_t rfl rfl hc91 ?_
                with_unfolding_all refine TX_guard_no_t rfl rfl hc91 ?_
                with_unfolding_all refine TX_guard_no_t rfl rfl hc91 ?_
                with_unfolding_all refine TX_guard_no_t rfl rfl hc91 ?_
                with_unfolding_all refine TX_pick_f rfl hc91 rfl ?_
                with_unfolding_all refine TX_nil ?_
                have hO108 : Own σ [] s89 [.obj id25 [.int .i64 (x20.From), .int .i64 (x20.To), .int .i64 (x20.Part), .int .i64 (x20.Weight)], .obj id51 [.int .i64 (x46.From), .int .i64 (x46.To), .int .i64 (x46.Part), .int .i64 (x46.Weight)]] := hO90.front 1 rfl rfl
                have hO109 : Own σ [] s89 [.obj id51 [.int .i64 (x46.From), .int .i64 (x46.To), .int .i64 (x46.Part), .int .i64 (x46.Weight)], .obj id25 [.int .i64 (x20.From), .int .i64 (x20.To), .int .i64 (x20.Part), .int .i64 (x20.Weight)]] := hO108.front 1 rfl rfl
                exact joinQ_normal ⟨s89, (hO109.sub 2 rfl), (Le_fr ⟨rfl, ⟨rfl, ⟨rfl, ⟨rfl, ⟨rfl, ⟨rfl, ⟨rfl, ⟨rfl, ⟨rfl, ⟨rfl, ⟨rfl, ⟨rfl, trivial⟩⟩⟩⟩⟩⟩⟩⟩⟩⟩⟩⟩)⟩
            · skip
              replace h63 := ite_f hc76 h63
              obtain rfl := some_s h63
              with_unfolding_all refine TX_guard_no_t rfl rfl hc76 ?_
              with_unfolding_all refine TX_guard_no_t rfl rfl hc76 ?_
              with_unfolding_all refine TX_guard_no_t rfl rfl hc76 ?_
              with_unfolding_all refine TX_guard_no_t rfl rfl hc76 ?_
              with_unfolding_all refine TX_guard_no_t rfl rfl hc76 ?_
              with_unfolding_all refine TX_guard_no_t rfl rfl hc76 ?_
              with_unfolding_all refine TX_guard_no_t rfl rfl hc76 ?_
              with_unfolding_all refine TX_guard_no_t rfl rfl hc76 ?_
              with_unfolding_all refine TX_guard_no_t rfl rfl hc76 ?_
              with_unfolding_all refine TX_guard_no_t rfl rfl hc76 ?_
              with_unfolding_all refine TX_pick_f rfl hc76 rfl ?_
              with_unfolding_all refine TX_move rfl ?_
              replace h69 := ite_f rfl h69
              obtain rfl := some_s h69
              with_unfolding_all refine TX_guard_no_t rfl rfl rfl ?_
              with_unfolding_all refine TX_guard_no_t rfl rfl rfl ?_
              with_unfolding_all refine TX_guard_no_t rfl rfl rfl ?_
              with_unfolding_all refine TX_guard_no_t rfl rfl rfl ?_
              with_unfolding_all refine TX_guard_no_t rfl rfl rfl ?_
              with_unfolding_all refine TX_guard_no_t rfl rfl rfl ?_
              with_unfolding_all refine TX_guard_no_t rfl rfl rfl ?_
              with_unfolding_all refine TX_guard_no_t rfl rfl rfl ?_
              with_unfolding_all refine TX_guard_no_t rfl rfl rfl ?_
              with_unfolding_all refine TX_guard_no_t rfl rfl rfl ?_
              with_unfolding_all refine TX_guard_no_t rfl rfl rfl ?_
              with_unfolding_all refine TX_pick_f rfl rfl rfl ?_
              with_unfolding_all refine TX_nil ?_
              have hO110 : Own σ [] s55 [.obj id25 [.int .i64 (x20.From), .int .i64 (x20.To), .int .i64 (x20.Part), .int .i64 (x20.Weight)], .obj id51 [.int .i64 (x46.From), .int .i64 (x46.To), .int .i64 (x46.Part), .int .i64 (x46.Weight)]] := hO56.front 1 rfl rfl
              have hO111 : Own σ [] s55 [.obj id51 [.int .i64 (x46.From), .int .i64 (x46.To), .int .i64 (x46.Part), .int .i64 (x46.Weight)], .obj id25 [.int .i64 (x20.From), .int .i64 (x20.To), .int .i64 (x20.Part), .int .i64 (x20.Weight)]] := hO110.front 1 rfl rfl
              exact joinQ_normal ⟨s55, (hO111.sub 2 rfl), (Le_fr ⟨rfl, ⟨rfl, ⟨rfl, ⟨rfl, ⟨rfl, ⟨rfl, ⟨rfl, ⟨rfl, ⟨rfl, ⟨rfl, ⟨rfl, ⟨rfl, trivial⟩⟩⟩⟩⟩⟩⟩⟩⟩⟩⟩⟩)⟩
          · skip
            rintro zj70 ⟨s71, hO72, hz73⟩
            with_unfolding_all refine thenQ_normal ?_
            refine TE_pre hz73 ?_
            with_unfolding_all refine TE_cond rfl (fun hc112 => ?_) (fun hc112 => ?_)
            · skip
              replace hF := ite_t hc112 hF
              with_unfolding_all refine TE_seq ?_
              with_unfolding_all refine TE_seqY ?_
              have hM113 := MB_none s71
              with_unfolding_all refine TX_assign rfl ?_
              with_unfolding_all refine TX_nil ?_
              with_unfolding_all refine thenQ_normal ?_
              with_unfolding_all refine TE_ret ?_
              with_unfolding_all refine blockQ_ret ?_
              with_unfolding_all refine thenQ_ret ?_
              obtain rfl := some_s hF
              exact iterQ_ret (.inr <| ⟨_, rfl, rfl, (done_any (vs := [.bool (false)]) (.inr rfl) rfl (resR_tmp rfl resR_nil) ⟨rfl, hO72.ext⟩)⟩)
            · skip
              replace hF := ite_f hc112 hF
              with_unfolding_all refine TE_skip ?_
              with_unfolding_all refine blockQ_normal ?_
              with_unfolding_all refine thenQ_normal ?_
              with_unfolding_all refine TE_seqY ?_
              have hM114 := MB_none s71
              with_unfolding_all refine TX_ari rfl rfl rfl ?_
              with_unfolding_all refine TX_move rfl ?_
              with_unfolding_all refine TX_nil ?_
              obtain rfl := some_s hF
              have hO115 : Own σ [] s71 [.obj id25 [.int .i64 (x20.From), .int .i64 (x20.To), .int .i64 (x20.Part), .int .i64 (x20.Weight)], .obj id51 [.int .i64 (x46.From), .int .i64 (x46.To), .int .i64 (x46.Part), .int .i64 (x46.Weight)]] := hO72.front 1 rfl rfl
              exact iterQ_again ⟨s71, (hO115.sub 1 rfl), (Le_fr ⟨rfl, ⟨rfl, ⟨rfl, ⟨rfl, ⟨rfl, ⟨rfl, ⟨rfl, ⟨rfl, ⟨rfl, ⟨rfl, ⟨rfl, trivial⟩⟩⟩⟩⟩⟩⟩⟩⟩⟩⟩)⟩
        · skip
          replace hF := ite_f hc45 hF
          with_unfolding_all refine TE_exit ?_
          with_unfolding_all refine thenQ_exit ?_
          obtain rfl := some_s hF
          exact iterQ_exit (.inl <| ⟨_, rfl, rfl, s35, (hO36.sub 1 rfl), (Le_fr ⟨rfl, ⟨rfl, ⟨rfl, ⟨rfl, ⟨rfl, ⟨rfl, trivial⟩⟩⟩⟩⟩⟩)⟩)
      · skip
        rintro eq33 zq33 (⟨p37, rfl, rfl, s38, hO39, hz116⟩ | ⟨p40, rfl, rfl, hdp40⟩)
        · skip
          try dsimp only at hF
          with_unfolding_all refine blockQ_out ?_
          with_unfolding_all refine blockQ_normal ?_
          with_unfolding_all refine thenQ_normal ?_
          refine TE_pre hz116 ?_
          with_unfolding_all refine TE_seqY ?_
          have hM117 := MB_none s38
          with_unfolding_all refine TX_ari rfl rfl rfl ?_
          with_unfolding_all refine TX_move rfl ?_
          with_unfolding_all refine TX_nil ?_
          obtain rfl := some_s hF
          exact iterQ_again ⟨s38, (hO39.sub 0 rfl), (Le_fr ⟨rfl, ⟨rfl, ⟨rfl, ⟨rfl, ⟨rfl, ⟨rfl, trivial⟩⟩⟩⟩⟩⟩)⟩
        · skip
          try dsimp only at hF
          with_unfolding_all refine blockQ_ret ?_
          with_unfolding_all refine blockQ_ret ?_
          with_unfolding_all refine thenQ_ret ?_
          obtain rfl := some_s hF
          exact iterQ_ret (.inr <| ⟨_, rfl, rfl, hdp40⟩)
    · skip
      replace hF := ite_f hc19 hF
      with_unfolding_all refine TE_exit ?_
      with_unfolding_all refine thenQ_exit ?_
      obtain rfl := some_s hF
      exact iterQ_exit (.inl <| ⟨_, rfl, rfl, s9, (hO10.sub 0 rfl), (Le_fr trivial)⟩)
  · skip
    rintro eq7 zq7 (⟨p11, rfl, rfl, s12, hO13, hz118⟩ | ⟨p14, rfl, rfl, hdp14⟩)
    · skip
      try dsimp only at hF
      with_unfolding_all refine blockQ_out ?_
      with_unfolding_all refine thenQ_normal ?_
      refine TE_pre hz118 ?_
      with_unfolding_all refine TE_seq ?_
      with_unfolding_all refine TE_seqY ?_
      have hM119 := MB_none s12
      with_unfolding_all refine TX_assign rfl ?_
      with_unfolding_all refine TX_nil ?_
      with_unfolding_all refine thenQ_normal ?_
      with_unfolding_all refine TE_ret ?_
      obtain rfl := some_s hF
      exact done_any (vs := [.bool (true)]) (.inr rfl) rfl (resR_tmp rfl resR_nil) ⟨rfl, hO13.ext⟩
    · skip
      try dsimp only at hF
      with_unfolding_all refine blockQ_ret ?_
      with_unfolding_all refine thenQ_ret ?_
      obtain rfl := some_s hF
      exact hdp14
theorem law12_all_ok {x0_ : (List match_Span)} {x1_ : match_Span} {y : Bool} (hF : F.law12_all x0_ x1_ = some y) {v0_ : AV} {v1_ : AV} {σ : Mem} (h0_ : (RS e_match_Span) v0_ x0_) (h1_ : e_match_Span.rel v1_ x1_)  :
    CallE Try.prog 42 [v0_, v1_] σ (fun v σ' => eB.rel v y ∧ Ext σ σ') := by
  unfold F.law12_all at hF
  obtain rfl := h1_
  refine CallE_of Try.func42 rfl Try.ntmps42 (by simp) ?_
  have hO0 := Own.start σ
  with_unfolding_all refine TE_seq ?_
  with_unfolding_all refine TE_seqY ?_
  have hM1 := MB_none σ
  with_unfolding_all refine TY_box hO0 hM1 rfl rfl ?_
  rintro id2 s3 (hO4 : Own σ [] s3 [.obj id2 [.int .i64 (x1_.From), .int .i64 (x1_.To), .int .i64 (x1_.Part), .int .i64 (x1_.Weight)]]) hM5
  with_unfolding_all refine TX_assign rfl ?_
  with_unfolding_all refine TX_nil ?_
  with_unfolding_all refine thenQ_normal ?_
  with_unfolding_all refine TE_seq ?_
  with_unfolding_all refine TE_seqY ?_
  have hM6 := MB_none s3
  with_unfolding_all refine TX_assign rfl ?_
  with_unfolding_all refine TX_nil ?_
  with_unfolding_all refine thenQ_normal ?_
  with_unfolding_all refine TE_ret ?_
  obtain rfl := some_s hF
  exact done_any (vs := [.bool (true)]) (.inr rfl) rfl (resR_tmp rfl resR_nil) ⟨rfl, hO4.ext⟩
theorem cmp_isNaN_int_ok {x0_ : Int} {y : Bool} (hF : F.cmp_isNaN_int x0_ = some y) {v0_ : AV} {σ : Mem} (h0_ : (eI .i64).rel v0_ x0_)  :
    CallE Try.prog 115 [v0_] σ (fun v σ' => eB.rel v y ∧ Ext σ σ') := by
  unfold F.cmp_isNaN_int at hF
  obtain rfl := h0_
  refine CallE_of Try.func115 rfl Try.ntmps115 (by simp) ?_
  have hO0 := Own.start σ
  with_unfolding_all refine TE_seq ?_
  with_unfolding_all refine TE_seqY ?_
  have hM1 := MB_none σ
  with_unfolding_all refine TX_assign rfl ?_
  with_unfolding_all refine TX_nil ?_
  with_unfolding_all refine thenQ_normal ?_
  with_unfolding_all refine TE_seq ?_
  with_unfolding_all refine TE_seqY ?_
  have hM2 := MB_none σ
  with_unfolding_all refine TX_move rfl ?_
  with_unfolding_all refine TX_move rfl ?_
  with_unfolding_all refine TX_cmp rfl rfl rfl ?_
  with_unfolding_all refine TX_assign rfl ?_
  with_unfolding_all refine TX_nil ?_
  with_unfolding_all refine thenQ_normal ?_
  with_unfolding_all refine TE_ret ?_
  obtain rfl := some_s hF
  exact done_any (vs := [.bool ((x0_ != x0_))]) (.inr rfl) rfl (resR_tmp rfl resR_nil) ⟨rfl, hO0.ext⟩
theorem cmp_Less_int_ok {x0_ : Int} {x1_ : Int} {y : Bool} (hF : F.cmp_Less_int x0_ x1_ = some y) {v0_ : AV} {v1_ : AV} {σ : Mem} (h0_ : (eI .i64).rel v0_ x0_) (h1_ : (eI .i64).rel v1_ x1_)  :
    CallE Try.prog 102 [v0_, v1_] σ (fun v σ' => eB.rel v y ∧ Ext σ σ') := by
  unfold F.cmp_Less_int at hF
  obtain rfl := h0_
  obtain rfl := h1_
  refine CallE_of Try.func102 rfl Try.ntmps102 (by simp) ?_
  have hO0 := Own.start σ
  with_unfolding_all refine TE_seq ?_
  with_unfolding_all refine TE_seqY ?_
  have hM1 := MB_none σ
  with_unfolding_all refine TX_assign rfl ?_
  with_unfolding_all refine TX_nil ?_
  with_unfolding_all refine thenQ_normal ?_
  with_unfolding_all refine TE_seq ?_
  obtain ⟨x2, h3, hF⟩ := bind_s hF
  obtain ⟨r6, h7, hF⟩ := bind_s hF
  obtain ⟨r8, h9, hF⟩ := bind_s hF
  with_unfolding_all refine TE_seqY ?_
  have hM10 := MB_none σ
  with_unfolding_all refine TX_move rfl ?_
  have hc11 : CallE Try.prog 115 [.int .i64 (x0_)] σ _ := cmp_isNaN_int_ok h3 rfl
  with_unfolding_all refine TY_call hM10 rfl en115 hc11 ?_
  intro v12 s16 hv13 hX14 hM15
  have hO17 := hO0.ext_call hX14
  obtain rfl := hv13
  with_unfolding_all refine TX_move rfl ?_
  with_unfolding_all refine TX_guard_t rfl rfl (fun hc18 => ?_) (fun hc18 => ?_)
  · skip
    replace h7 := ite_t hc18 h7
    obtain ⟨x4, h5, h7⟩ := bind_s h7
    with_unfolding_all refine TX_move rfl ?_
    with_unfolding_all refine TX_guard_yes rfl rfl hc18 ?_
    have hc19 : CallE Try.prog 115 [.int .i64 (x1_)] s16 _ := cmp_isNaN_int_ok h5 rfl
    with_unfolding_all refine TY_call hM15 rfl en115 hc19 ?_
    intro v20 s24 hv21 hX22 hM23
    have hO25 := hO17.ext_call hX22
    obtain rfl := hv21
    with_unfolding_all refine TX_guard_yes rfl rfl hc18 ?_
    with_unfolding_all refine TX_not rfl ?_
    with_unfolding_all refine TX_pick_t rfl hc18 rfl ?_
    obtain rfl := some_s h7
    with_unfolding_all refine TX_move rfl ?_
    with_unfolding_all refine TX_guard_f rfl rfl (fun hc26 => ?_) (fun hc26 => ?_)
    · skip
      replace h9 := or_t hc26 h9
      obtain rfl := some_s h9
      with_unfolding_all refine TX_guard_no_f rfl rfl hc26 ?_
      with_unfolding_all refine TX_guard_no_f rfl rfl hc26 ?_
      with_unfolding_all refine TX_pick_t rfl hc26 rfl ?_
      with_unfolding_all refine TX_assign rfl ?_
      with_unfolding_all refine TX_nil ?_
      with_unfolding_all refine thenQ_normal ?_
      with_unfolding_all refine TE_ret ?_
      obtain rfl := some_s hF
      exact done_any (vs := [.bool (true)]) (.inr rfl) rfl (resR_tmp rfl resR_nil) ⟨rfl, hO25.ext⟩
    · skip
      replace h9 := or_f hc26 h9
      with_unfolding_all refine TX_move rfl ?_
      with_unfolding_all refine TX_guard_yes rfl rfl hc26 ?_
      with_unfolding_all refine TX_move rfl ?_
      with_unfolding_all refine TX_guard_yes rfl rfl hc26 ?_
      with_unfolding_all refine TX_cmp rfl rfl rfl ?_
      with_unfolding_all refine TX_pick_f rfl hc26 rfl ?_
      obtain rfl := some_s h9
      with_unfolding_all refine TX_assign rfl ?_
      with_unfolding_all refine TX_nil ?_
      with_unfolding_all refine thenQ_normal ?_
      with_unfolding_all refine TE_ret ?_
      obtain rfl := some_s hF
      exact done_any (vs := [.bool ((decide (x0_ < x1_)))]) (.inr rfl) rfl (resR_tmp rfl resR_nil) ⟨rfl, hO25.ext⟩
  · skip
    replace h7 := ite_f hc18 h7
    obtain rfl := some_s h7
    with_unfolding_all refine TX_guard_no_t rfl rfl hc18 ?_
    with_unfolding_all refine TX_guard_no_t rfl rfl hc18 ?_
    with_unfolding_all refine TX_pick_f rfl hc18 rfl ?_
    with_unfolding_all refine TX_move rfl ?_
    replace h9 := or_f rfl h9
    with_unfolding_all refine TX_guard_yes rfl rfl rfl ?_
    with_unfolding_all refine TX_move rfl ?_
    with_unfolding_all refine TX_guard_yes rfl rfl rfl ?_
    with_unfolding_all refine TX_move rfl ?_
    with_unfolding_all refine TX_guard_yes rfl rfl rfl ?_
    with_unfolding_all refine TX_cmp rfl rfl rfl ?_
    with_unfolding_all refine TX_pick_f rfl rfl rfl ?_
    obtain rfl := some_s h9
    with_unfolding_all refine TX_assign rfl ?_
    with_unfolding_all refine TX_nil ?_
    with_unfolding_all refine thenQ_normal ?_
    with_unfolding_all refine TE_ret ?_
    obtain rfl := some_s hF
    exact done_any (vs := [.bool ((decide (x0_ < x1_)))]) (.inr rfl) rfl (resR_tmp rfl resR_nil) ⟨rfl, hO17.ext⟩
theorem slices_isNaN_int_ok {x0_ : Int} {y : Bool} (hF : F.slices_isNaN_int x0_ = some y) {v0_ : AV} {σ : Mem} (h0_ : (eI .i64).rel v0_ x0_)  :
    CallE Try.prog 103 [v0_] σ (fun v σ' => eB.rel v y ∧ Ext σ σ') := by
  unfold F.slices_isNaN_int at hF
  obtain rfl := h0_
  refine CallE_of Try.func103 rfl Try.ntmps103 (by simp) ?_
  have hO0 := Own.start σ
  with_unfolding_all refine TE_seq ?_
  with_unfolding_all refine TE_seqY ?_
  have hM1 := MB_none σ
  with_unfolding_all refine TX_assign rfl ?_
  with_unfolding_all refine TX_nil ?_
  with_unfolding_all refine thenQ_normal ?_
  with_unfolding_all refine TE_seq ?_
  with_unfolding_all refine TE_seqY ?_
  have hM2 := MB_none σ
  with_unfolding_all refine TX_move rfl ?_
  with_unfolding_all refine TX_move rfl ?_
  with_unfolding_all refine TX_cmp rfl rfl rfl ?_
  with_unfolding_all refine TX_assign rfl ?_
  with_unfolding_all refine TX_nil ?_
  with_unfolding_all refine thenQ_normal ?_
  with_unfolding_all refine TE_ret ?_
  obtain rfl := some_s hF
  exact done_any (vs := [.bool ((x0_ != x0_))]) (.inr rfl) rfl (resR_tmp rfl resR_nil) ⟨rfl, hO0.ext⟩
theorem slices_BinarySearch_int_int_ok {x0_ : (List Int)} {x1_ : Int} {y : (Int × Bool)} (hF : F.slices_BinarySearch_int_int x0_ x1_ = some y) {v0_ : AV} {v1_ : AV} {σ : Mem} (h0_ : (RS (eI .i64)) v0_ x0_) (h1_ : (eI .i64).rel v1_ x1_)  :
    CallE Try.prog 97 [v0_, v1_] σ (fun v σ' => (R2 (eI .i64).rel eB.rel) v y ∧ Ext σ σ') := by
  unfold F.slices_BinarySearch_int_int at hF
  obtain rfl := h1_
  refine CallE_of Try.func97 rfl Try.ntmps97 (by simp) ?_
  have hO0 := Own.start σ
  with_unfolding_all refine TE_seq ?_
  with_unfolding_all refine TE_seqY ?_
  have hM1 := MB_none σ
  with_unfolding_all refine TX_assign rfl ?_
  with_unfolding_all refine TX_assign rfl ?_
  with_unfolding_all refine TX_nil ?_
  with_unfolding_all refine thenQ_normal ?_
  with_unfolding_all refine TE_seq ?_
  with_unfolding_all refine TE_seqY ?_
  have hM2 := MB_none σ
  with_unfolding_all refine TX_move rfl ?_
  with_unfolding_all refine TY_len rfl rfl rfl rfl h0_ rfl ?_
  with_unfolding_all refine TX_assign rfl ?_
  with_unfolding_all refine TX_nil ?_
  with_unfolding_all refine thenQ_normal ?_
  with_unfolding_all refine TE_seq ?_
  with_unfolding_all refine TE_seqY ?_
  have hM3 := MB_none σ
  with_unfolding_all refine TX_move rfl ?_
  with_unfolding_all refine TX_assign rfl ?_
  with_unfolding_all refine TX_assign rfl ?_
  with_unfolding_all refine TX_nil ?_
  with_unfolding_all refine thenQ_normal ?_
  with_unfolding_all refine TE_seq ?_
  with_unfolding_all refine TE_block ?_
  obtain ⟨p8, h12, hF⟩ := bind_s hF
  refine TE_iter (f := F.slices_BinarySearch_int_int_s1 x0_ x1_) (s0 := (0, (x0_.length : Int))) (a := p8) (fun (q4 : (Int × Int)) z => ∃ (s6 : Mem), Own σ [] s6 [] ∧ Le z ⟨fr 54 [(0, v0_), (1, .int .i64 (x1_)), (6, .int .i64 ((x0_.length : Int))), (7, .int .i64 (q4.1)), (8, .int .i64 (q4.2))], [], s6⟩) (fun (p8 : Int) e z => (e = .exit 0 ∧ ∃ (s9 : Mem), Own σ [] s9 [] ∧ Le z ⟨fr 54 [(0, v0_), (1, .int .i64 (x1_)), (6, .int .i64 ((x0_.length : Int))), (7, .int .i64 (p8))], [], s9⟩)) h12 ?_ ?_ ?_
  · skip
    exact ⟨σ, (hO0.sub 0 rfl), (Le_fr ⟨rfl, ⟨rfl, ⟨rfl, ⟨rfl, ⟨rfl, trivial⟩⟩⟩⟩⟩)⟩
  · skip
    clear hF
    rintro q4 zq4 r5 ⟨s6, hO7, hz13⟩ hF
    unfold F.slices_BinarySearch_int_int_s1 at hF
    refine TE_pre hz13 ?_
    with_unfolding_all refine TE_seq ?_
    with_unfolding_all refine TE_seq ?_
    with_unfolding_all refine TE_seqY ?_
    have hM14 := MB_none s6
    with_unfolding_all refine TX_move rfl ?_
    with_unfolding_all refine TX_move rfl ?_
    with_unfolding_all refine TX_cmp rfl rfl rfl ?_
    with_unfolding_all refine TX_nil ?_
    with_unfolding_all refine thenQ_normal ?_
    with_unfolding_all refine TE_cond rfl (fun hc15 => ?_) (fun hc15 => ?_)
    · skip
      replace hF := ite_t hc15 hF
      with_unfolding_all refine TE_skip ?_
      with_unfolding_all refine thenQ_normal ?_
      with_unfolding_all refine TE_block ?_
      with_unfolding_all refine TE_seq ?_
      with_unfolding_all refine TE_seqY ?_
      have hM16 := MB_none s6
      with_unfolding_all refine TX_move rfl ?_
      with_unfolding_all refine TX_move rfl ?_
      with_unfolding_all refine TX_ari rfl rfl rfl ?_
      with_unfolding_all refine TX_convInt rfl rfl rfl ?_
      with_unfolding_all refine TX_sh rfl rfl (by decide) rfl ?_
      with_unfolding_all refine TX_convInt rfl rfl rfl ?_
      with_unfolding_all refine TX_assign rfl ?_
      with_unfolding_all refine TX_nil ?_
      with_unfolding_all refine thenQ_normal ?_
      with_unfolding_all refine TE_seq ?_
      obtain ⟨x17, h18, hF⟩ := bind_s hF
      obtain ⟨x19, h20, hF⟩ := bind_s hF
      with_unfolding_all refine TE_seqY ?_
      have hM21 := MB_none s6
      with_unfolding_all refine TX_move rfl ?_
      with_unfolding_all refine TX_move rfl ?_
      with_unfolding_all refine TY_idx (E := (eI .i64)) rfl rfl rfl h0_ rfl h18 ?_
      intro u22 h23
      obtain rfl := h23
      with_unfolding_all refine TX_load_c rfl rfl ?_
      with_unfolding_all refine TX_move rfl ?_
      have hc24 : CallE Try.prog 102 [.int .i64 (x17), .int .i64 (x1_)] s6 _ := cmp_Less_int_ok h20 rfl rfl
      with_unfolding_all refine TY_call hM21 rfl en102 hc24 ?_
      intro v25 s29 hv26 hX27 hM28
      have hO30 := hO7.ext_call hX27
      obtain rfl := hv26
      with_unfolding_all refine TX_nil ?_
      with_unfolding_all refine thenQ_normal ?_
      with_unfolding_all refine TE_cond rfl (fun hc31 => ?_) (fun hc31 => ?_)
      · skip
        replace hF := ite_t hc31 hF
        with_unfolding_all refine TE_seqY ?_
        have hM32 := MB_none s29
        with_unfolding_all refine TX_move rfl ?_
        with_unfolding_all refine TX_ari rfl rfl rfl ?_
        with_unfolding_all refine TX_assign rfl ?_
        with_unfolding_all refine TX_nil ?_
        with_unfolding_all refine blockQ_normal ?_
        obtain rfl := some_s hF
        exact iterQ_again ⟨s29, (hO30.sub 0 rfl), (Le_fr ⟨rfl, ⟨rfl, ⟨rfl, ⟨rfl, ⟨rfl, trivial⟩⟩⟩⟩⟩)⟩
      · skip
        replace hF := ite_f hc31 hF
        with_unfolding_all refine TE_seqY ?_
        have hM33 := MB_none s29
        with_unfolding_all refine TX_move rfl ?_
        with_unfolding_all refine TX_assign rfl ?_
        with_unfolding_all refine TX_nil ?_
        with_unfolding_all refine blockQ_normal ?_
        obtain rfl := some_s hF
        exact iterQ_again ⟨s29, (hO30.sub 0 rfl), (Le_fr ⟨rfl, ⟨rfl, ⟨rfl, ⟨rfl, ⟨rfl, trivial⟩⟩⟩⟩⟩)⟩
    · skip
      replace hF := ite_f hc15 hF
      with_unfolding_all refine TE_exit ?_
      with_unfolding_all refine thenQ_exit ?_
      obtain rfl := some_s hF
      exact iterQ_exit (⟨rfl, s6, (hO7.sub 0 rfl), (Le_fr ⟨rfl, ⟨rfl, ⟨rfl, ⟨rfl, trivial⟩⟩⟩⟩)⟩)
  · skip
    rintro eq4 zq4 (⟨rfl, s9, hO10, hz34⟩)
    with_unfolding_all refine blockQ_out ?_
    with_unfolding_all refine thenQ_normal ?_
    refine TE_pre hz34 ?_
    with_unfolding_all refine TE_seq ?_
    obtain ⟨r47, h48, hF⟩ := bind_s hF
    with_unfolding_all refine TE_seqY ?_
    have hM49 := MB_none s9
    with_unfolding_all refine TX_move rfl ?_
    with_unfolding_all refine TX_move rfl ?_
    with_unfolding_all refine TX_move rfl ?_
    with_unfolding_all refine TX_cmp rfl rfl rfl ?_
    with_unfolding_all refine TX_move rfl ?_
    with_unfolding_all refine TX_guard_t rfl rfl (fun hc50 => ?_) (fun hc50 => ?_)
    · skip
      replace h48 := ite_t hc50 h48
      obtain ⟨x35, h36, h48⟩ := bind_s h48
      obtain ⟨r45, h46, h48⟩ := bind_s h48
      with_unfolding_all refine TX_move rfl ?_
      with_unfolding_all refine TX_guard_yes rfl rfl hc50 ?_
      with_unfolding_all refine TX_move rfl ?_
      with_unfolding_all refine TX_guard_yes rfl rfl hc50 ?_
      with_unfolding_all refine TY_idx (E := (eI .i64)) rfl rfl rfl h0_ rfl h36 ?_
      intro u51 h52
      obtain rfl := h52
      with_unfolding_all refine TX_guard_yes rfl rfl hc50 ?_
      with_unfolding_all refine TX_load_c rfl rfl ?_
      with_unfolding_all refine TX_guard_yes rfl rfl hc50 ?_
      with_unfolding_all refine TX_move rfl ?_
      with_unfolding_all refine TX_guard_yes rfl rfl hc50 ?_
      with_unfolding_all refine TX_cmp rfl rfl rfl ?_
      with_unfolding_all refine TX_guard_yes rfl rfl hc50 ?_
      with_unfolding_all refine TX_move rfl ?_
      with_unfolding_all refine TX_guard_f rfl rfl (fun hc53 => ?_) (fun hc53 => ?_)
      · skip
        replace h46 := ite_t hc53 h46
        obtain rfl := some_s h46
        with_unfolding_all refine TX_guard_no_f rfl rfl hc53 ?_
        with_unfolding_all refine TX_guard_no_f rfl rfl hc53 ?_
        with_unfolding_all refine TX_guard_no_f rfl rfl hc53 ?_
        with_unfolding_all refine TX_guard_no_f rfl rfl hc53 ?_
        with_unfolding_all refine TX_guard_no_f rfl rfl hc53 ?_
        with_unfolding_all refine TX_guard_un rfl rfl ?_
        with_unfolding_all refine TX_guard_un rfl rfl ?_
        with_unfolding_all refine TX_guard_no_f rfl rfl hc53 ?_
        with_unfolding_all refine TX_guard_yes rfl rfl hc50 ?_
        with_unfolding_all refine TX_pick_t rfl hc53 rfl ?_
        with_unfolding_all refine TX_pick_t rfl hc50 rfl ?_
        obtain rfl := some_s h48
        with_unfolding_all refine TX_assign rfl ?_
        with_unfolding_all refine TX_assign rfl ?_
        with_unfolding_all refine TX_nil ?_
        with_unfolding_all refine thenQ_normal ?_
        with_unfolding_all refine TE_ret ?_
        obtain rfl := some_s hF
        exact done_any (vs := [.int .i64 (p8), .bool (true)]) (.inr rfl) rfl (resR_tmp rfl (resR_tmp rfl resR_nil)) ⟨⟨_, _, rfl, rfl, rfl⟩, hO10.ext⟩
      · skip
        replace h46 := ite_f hc53 h46
        obtain ⟨x37, h38, h46⟩ := bind_s h46
        obtain ⟨x39, h40, h46⟩ := bind_s h46
        obtain ⟨r43, h44, h46⟩ := bind_s h46
        with_unfolding_all refine TX_move rfl ?_
        with_unfolding_all refine TX_guard_yes rfl rfl hc53 ?_
        with_unfolding_all refine TX_move rfl ?_
        with_unfolding_all refine TX_guard_yes rfl rfl hc53 ?_
        with_unfolding_all refine TY_idx (E := (eI .i64)) rfl rfl rfl h0_ rfl h38 ?_
        intro u54 h55
        obtain rfl := h55
        with_unfolding_all refine TX_guard_yes rfl rfl hc53 ?_
        with_unfolding_all refine TX_load_c rfl rfl ?_
        with_unfolding_all refine TX_guard_yes rfl rfl hc53 ?_
        have hc56 : CallE Try.prog 103 [.int .i64 (x37)] s9 _ := slices_isNaN_int_ok h40 rfl
        with_unfolding_all refine TY_call hM49 rfl en103 hc56 ?_
        intro v57 s61 hv58 hX59 hM60
        have hO62 := hO10.ext_call hX59
        obtain rfl := hv58
        with_unfolding_all refine TX_guard_yes rfl rfl hc53 ?_
        with_unfolding_all refine TX_move rfl ?_
        with_unfolding_all refine TX_guard_t rfl rfl (fun hc63 => ?_) (fun hc63 => ?_)
        · skip
          replace h44 := ite_t hc63 h44
          obtain ⟨x41, h42, h44⟩ := bind_s h44
          with_unfolding_all refine TX_move rfl ?_
          with_unfolding_all refine TX_guard_yes rfl rfl hc63 ?_
          have hc64 : CallE Try.prog 103 [.int .i64 (x1_)] s61 _ := slices_isNaN_int_ok h42 rfl
          with_unfolding_all refine TY_call hM60 rfl en103 hc64 ?_
          intro v65 s69 hv66 hX67 hM68
          have hO70 := hO62.ext_call hX67
          obtain rfl := hv66
          with_unfolding_all refine TX_guard_yes rfl rfl hc53 ?_
          with_unfolding_all refine TX_pick_t rfl hc63 rfl ?_
          obtain rfl := some_s h44
          with_unfolding_all refine TX_guard_yes rfl rfl hc50 ?_
          with_unfolding_all refine TX_pick_f rfl hc53 rfl ?_
          obtain rfl := some_s h46
          with_unfolding_all refine TX_pick_t rfl hc50 rfl ?_
          obtain rfl := some_s h48
          with_unfolding_all refine TX_assign rfl ?_
          with_unfolding_all refine TX_assign rfl ?_
          with_unfolding_all refine TX_nil ?_
          with_unfolding_all refine thenQ_normal ?_
          with_unfolding_all refine TE_ret ?_
          obtain rfl := some_s hF
          exact done_any (vs := [.int .i64 (p8), .bool (x41)]) (.inr rfl) rfl (resR_tmp rfl (resR_tmp rfl resR_nil)) ⟨⟨_, _, rfl, rfl, rfl⟩, hO70.ext⟩
        · skip
          replace h44 := ite_f hc63 h44
          obtain rfl := some_s h44
          with_unfolding_all refine TX_guard_no_t rfl rfl hc63 ?_
          with_unfolding_all refine TX_guard_yes rfl rfl hc53 ?_
          with_unfolding_all refine TX_pick_f rfl hc63 rfl ?_
          with_unfolding_all refine TX_guard_yes rfl rfl hc50 ?_
          with_unfolding_all refine TX_pick_f rfl hc53 rfl ?_
          obtain rfl := some_s h46
          with_unfolding_all refine TX_pick_t rfl hc50 rfl ?_
          obtain rfl := some_s h48
          with_unfolding_all refine TX_assign rfl ?_
          with_unfolding_all refine TX_assign rfl ?_
          with_unfolding_all refine TX_nil ?_
          with_unfolding_all refine thenQ_normal ?_
          with_unfolding_all refine TE_ret ?_
          obtain rfl := some_s hF
          exact done_any (vs := [.int .i64 (p8), .bool (false)]) (.inr rfl) rfl (resR_tmp rfl (resR_tmp rfl resR_nil)) ⟨⟨_, _, rfl, rfl, rfl⟩, hO62.ext⟩
    · skip
      replace h48 := ite_f hc50 h48
      obtain rfl := some_s h48
      with_unfolding_all refine TX_guard_no_t rfl rfl hc50 ?_
      with_unfolding_all refine TX_guard_no_t rfl rfl hc50 ?_
      with_unfolding_all refine TX_guard_no_t rfl rfl hc50 ?_
      with_unfolding_all refine TX_guard_no_t rfl rfl hc50 ?_
      with_unfolding_all refine TX_guard_no_t rfl rfl hc50 ?_
      with_unfolding_all refine TX_guard_no_t rfl rfl hc50 ?_
      with_unfolding_all refine TX_guard_un rfl rfl ?_
      with_unfolding_all refine TX_guard_un rfl rfl ?_
      with_unfolding_all refine TX_guard_un rfl rfl ?_
      with_unfolding_all refine TX_guard_un rfl rfl ?_
      with_unfolding_all refine TX_guard_un rfl rfl ?_
      with_unfolding_all refine TX_guard_un rfl rfl ?_
      with_unfolding_all refine TX_guard_un rfl rfl ?_
      with_unfolding_all refine TX_guard_un rfl rfl ?_
      with_unfolding_all refine TX_guard_un rfl rfl ?_
      with_unfolding_all refine TX_guard_no_t rfl rfl hc50 ?_
      with_unfolding_all refine TX_pick_f rfl hc50 rfl ?_
      with_unfolding_all refine TX_assign rfl ?_
      with_unfolding_all refine TX_assign rfl ?_
      with_unfolding_all refine TX_nil ?_
      with_unfolding_all refine thenQ_normal ?_
      with_unfolding_all refine TE_ret ?_
      obtain rfl := some_s hF
      exact done_any (vs := [.int .i64 (p8), .bool (false)]) (.inr rfl) rfl (resR_tmp rfl (resR_tmp rfl resR_nil)) ⟨⟨_, _, rfl, rfl, rfl⟩, hO10.ext⟩
theorem token_Rank_ok {x0_ : (List Int)} {x1_ : Int} {y : Int} (hF : F.token_Rank x0_ x1_ = some y) {v0_ : AV} {v1_ : AV} {σ : Mem} (h0_ : (RS (eI .i64)) v0_ x0_) (h1_ : (eI .i64).rel v1_ x1_)  :
    CallE Try.prog 73 [v0_, v1_] σ (fun v σ' => (eI .i64).rel v y ∧ Ext σ σ') := by
  unfold F.token_Rank at hF
  obtain rfl := h1_
  refine CallE_of Try.func73 rfl Try.ntmps73 (by simp) ?_
  have hO0 := Own.start σ
  with_unfolding_all refine TE_seq ?_
  with_unfolding_all refine TE_seqY ?_
  have hM1 := MB_none σ
  with_unfolding_all refine TX_assign rfl ?_
  with_unfolding_all refine TX_nil ?_
  with_unfolding_all refine thenQ_normal ?_
  with_unfolding_all refine TE_seq ?_
  obtain ⟨x2, h3, hF⟩ := bind_s hF
  with_unfolding_all refine TE_seqY ?_
  have hM4 := MB_none σ
  with_unfolding_all refine TX_move rfl ?_
  with_unfolding_all refine TX_move rfl ?_
  have hc5 : CallE Try.prog 97 [v0_, .int .i64 (x1_)] σ _ := slices_BinarySearch_int_int_ok h3 h0_ rfl
  with_unfolding_all refine TY_call hM4 rfl en97 hc5 ?_
  intro v6 s10 hv7 hX8 hM9
  have hO11 := hO0.ext_call hX8
  obtain ⟨v12, v13, rfl, h14, h15⟩ := hv7
  obtain rfl := h14
  obtain rfl := h15
  with_unfolding_all refine TX_move rfl ?_
  with_unfolding_all refine TX_extract rfl rfl ?_
  with_unfolding_all refine TX_extract rfl rfl ?_
  with_unfolding_all refine TX_assign rfl ?_
  with_unfolding_all refine TX_assign rfl ?_
  with_unfolding_all refine TX_nil ?_
  with_unfolding_all refine thenQ_normal ?_
  with_unfolding_all refine TE_seq ?_
  with_unfolding_all refine TE_seq ?_
  with_unfolding_all refine TE_seqY ?_
  have hM16 := MB_none s10
  with_unfolding_all refine TX_move rfl ?_
  with_unfolding_all refine TX_nil ?_
  with_unfolding_all refine thenQ_normal ?_
  with_unfolding_all refine TE_cond rfl (fun hc17 => ?_) (fun hc17 => ?_)
  · skip
    replace hF := ite_t hc17 hF
    with_unfolding_all refine TE_seqY ?_
    have hM18 := MB_none s10
    with_unfolding_all refine TX_move rfl ?_
    with_unfolding_all refine TX_ari rfl rfl rfl ?_
    with_unfolding_all refine TX_assign rfl ?_
    with_unfolding_all refine TX_nil ?_
    with_unfolding_all refine thenQ_normal ?_
    with_unfolding_all refine TE_seq ?_
    with_unfolding_all refine TE_seqY ?_
    have hM19 := MB_none s10
    with_unfolding_all refine TX_move rfl ?_
    with_unfolding_all refine TX_assign rfl ?_
    with_unfolding_all refine TX_nil ?_
    with_unfolding_all refine thenQ_normal ?_
    with_unfolding_all refine TE_ret ?_
    obtain rfl := some_s hF
    exact done_any (vs := [.int .i64 ((IntKind.wrap .i64 (x2.1 + 1)))]) (.inr rfl) rfl (resR_tmp rfl resR_nil) ⟨rfl, hO11.ext⟩
  · skip
    replace hF := ite_f hc17 hF
    with_unfolding_all refine TE_skip ?_
    with_unfolding_all refine thenQ_normal ?_
    with_unfolding_all refine TE_seq ?_
    with_unfolding_all refine TE_seqY ?_
    have hM20 := MB_none s10
    with_unfolding_all refine TX_move rfl ?_
    with_unfolding_all refine TX_assign rfl ?_
    with_unfolding_all refine TX_nil ?_
    with_unfolding_all refine thenQ_normal ?_
    with_unfolding_all refine TE_ret ?_
    obtain rfl := some_s hF
    exact done_any (vs := [.int .i64 (x2.1)]) (.inr rfl) rfl (resR_tmp rfl resR_nil) ⟨rfl, hO11.ext⟩
theorem match_Text_Rank_ok {x0_ : match_Text} {x1_ : Int} {x2_ : Int} {y : Int} (hF : F.match_Text_Rank x0_ x1_ x2_ = some y) {v0_ : AV} {v1_ : AV} {v2_ : AV} {σ : Mem} (h0_ : e_match_Text.rel v0_ x0_) (h1_ : (eI .i64).rel v1_ x1_) (h2_ : (eI .i64).rel v2_ x2_)  :
    CallE Try.prog 43 [v0_, v1_, v2_] σ (fun v σ' => (eI .i64).rel v y ∧ Ext σ σ') := by
  unfold F.match_Text_Rank at hF
  obtain ⟨u1, u3, rfl, h2, h4⟩ := h0_
  obtain rfl := h1_
  obtain rfl := h2_
  refine CallE_of Try.func43 rfl Try.ntmps43 (by simp) ?_
  have hO0 := Own.start σ
  with_unfolding_all refine TE_seq ?_
  with_unfolding_all refine TE_seqY ?_
  have hM5 := MB_none σ
  with_unfolding_all refine TY_box hO0 hM5 rfl rfl ?_
  rintro id6 s7 (hO8 : Own σ [] s7 [.obj id6 [.int .i64 (x0_.From), .int .i64 (x0_.To), u1, u3]]) hM9
  with_unfolding_all refine TX_assign rfl ?_
  with_unfolding_all refine TX_nil ?_
  with_unfolding_all refine thenQ_normal ?_
  with_unfolding_all refine TE_seq ?_
  with_unfolding_all refine TE_seq ?_
  with_unfolding_all refine TE_seqY ?_
  have hM10 := MB_none s7
  with_unfolding_all refine TX_move rfl ?_
  with_unfolding_all refine TX_nil ?_
  with_unfolding_all refine thenQ_normal ?_
  with_unfolding_all refine TE_block ?_
  with_unfolding_all refine TE_seq ?_
  with_unfolding_all refine TE_seqY ?_
  have hM11 := MB_none s7
  with_unfolding_all refine TX_cmp rfl rfl rfl ?_
  with_unfolding_all refine TX_assign rfl ?_
  with_unfolding_all refine TX_nil ?_
  with_unfolding_all refine thenQ_normal ?_
  with_unfolding_all refine TE_cond rfl (fun hc12 => ?_) (fun hc12 => ?_)
  · skip
    replace hF := ite_t hc12 hF
    with_unfolding_all refine TE_seq ?_
    obtain ⟨x13, h14, hF⟩ := bind_s hF
    with_unfolding_all refine TE_seqY ?_
    have hM15 := MB_none s7
    with_unfolding_all refine TX_fieldAddr_p rfl rfl rfl ?_
    with_unfolding_all refine TX_load_p rfl (MC_none (hO8.obj 0 rfl)) rfl ?_
    with_unfolding_all refine TX_move rfl ?_
    have hc16 : CallE Try.prog 73 [u1, .int .i64 (x2_)] s7 _ := token_Rank_ok h14 h2 rfl
    with_unfolding_all refine TY_call hM15 rfl en73 hc16 ?_
    intro v17 s21 hv18 hX19 hM20
    have hO22 := hO8.ext_call hX19
    obtain rfl := hv18
    with_unfolding_all refine TX_assign rfl ?_
    with_unfolding_all refine TX_nil ?_
    with_unfolding_all refine thenQ_normal ?_
    with_unfolding_all refine TE_ret ?_
    with_unfolding_all refine blockQ_ret ?_
    with_unfolding_all refine thenQ_ret ?_
    obtain rfl := some_s hF
    exact done_any (vs := [.int .i64 (x13)]) (.inr rfl) rfl (resR_tmp rfl resR_nil) ⟨rfl, hO22.ext⟩
  · skip
    replace hF := ite_f hc12 hF
    with_unfolding_all refine TE_seq ?_
    with_unfolding_all refine TE_seqY ?_
    have hM23 := MB_none s7
    with_unfolding_all refine TX_cmp rfl rfl rfl ?_
    with_unfolding_all refine TX_assign rfl ?_
    with_unfolding_all refine TX_nil ?_
    with_unfolding_all refine thenQ_normal ?_
    with_unfolding_all refine TE_cond rfl (fun hc24 => ?_) (fun hc24 => ?_)
    · skip
      replace hF := ite_t hc24 hF
      with_unfolding_all refine TE_seq ?_
      obtain ⟨x25, h26, hF⟩ := bind_s hF
      with_unfolding_all refine TE_seqY ?_
      have hM27 := MB_none s7
      with_unfolding_all refine TX_fieldAddr_p rfl rfl rfl ?_
      with_unfolding_all refine TX_load_p rfl (MC_none (hO8.obj 0 rfl)) rfl ?_
      with_unfolding_all refine TX_move rfl ?_
      have hc28 : CallE Try.prog 73 [u3, .int .i64 (x2_)] s7 _ := token_Rank_ok h26 h4 rfl
      with_unfolding_all refine TY_call hM27 rfl en73 hc28 ?_
      intro v29 s33 hv30 hX31 hM32
      have hO34 := hO8.ext_call hX31
      obtain rfl := hv30
      with_unfolding_all refine TX_assign rfl ?_
      with_unfolding_all refine TX_nil ?_
      with_unfolding_all refine thenQ_normal ?_
      with_unfolding_all refine TE_ret ?_
      with_unfolding_all refine blockQ_ret ?_
      with_unfolding_all refine thenQ_ret ?_
      obtain rfl := some_s hF
      exact done_any (vs := [.int .i64 (x25)]) (.inr rfl) rfl (resR_tmp rfl resR_nil) ⟨rfl, hO34.ext⟩
    · skip
      replace hF := ite_f hc24 hF
      with_unfolding_all refine TE_skip ?_
      with_unfolding_all refine blockQ_normal ?_
      with_unfolding_all refine thenQ_normal ?_
      with_unfolding_all refine TE_seq ?_
      with_unfolding_all refine TE_seqY ?_
      have hM35 := MB_none s7
      with_unfolding_all refine TX_move rfl ?_
      with_unfolding_all refine TX_assign rfl ?_
      with_unfolding_all refine TX_nil ?_
      with_unfolding_all refine thenQ_normal ?_
      with_unfolding_all refine TE_ret ?_
      obtain rfl := some_s hF
      exact done_any (vs := [.int .i64 (x2_)]) (.inr rfl) rfl (resR_tmp rfl resR_nil) ⟨rfl, hO8.ext⟩
end Go.Proofs.Ytihbdelgoapeoaa.K
