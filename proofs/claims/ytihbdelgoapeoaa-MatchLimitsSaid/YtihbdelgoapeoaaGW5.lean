/- Walks. Printed. -/
import Derived.Test.YtihbdelgoapeoaaGW4
namespace Go.Proofs.Ytihbdelgoapeoaa.K
open Go Go.RowKit F
set_option maxRecDepth 100000
set_option maxHeartbeats 4000000
set_option linter.unusedVariables false
set_option linter.unusedSimpArgs false
theorem law12_MatchMild_ok {x0_ : (List match_Match)} {x1_ : (List match_Match)} {y : Bool} (hF : F.law12_MatchMild x0_ x1_ = some y) {v0_ : AV} {v1_ : AV} {σ : Mem} (h0_ : (RS e_match_Match) v0_ x0_) (h1_ : (RS e_match_Match) v1_ x1_)  :
    CallE Try.prog 3 [v0_, v1_] σ (fun v σ' => eB.rel v y ∧ Ext σ σ') := by
  unfold F.law12_MatchMild at hF
  refine CallE_of Try.func3 rfl Try.ntmps3 (by simp) ?_
  have hO0 := Own.start σ
  with_unfolding_all refine TE_seq ?_
  with_unfolding_all refine TE_seqY ?_
  have hM1 := MB_none σ
  with_unfolding_all refine TX_assign rfl ?_
  with_unfolding_all refine TX_nil ?_
  with_unfolding_all refine thenQ_normal ?_
  with_unfolding_all refine TE_seq ?_
  with_unfolding_all refine TE_seq ?_
  obtain ⟨x2, h3, hF⟩ := bind_s hF
  with_unfolding_all refine TE_seqY ?_
  have hM4 := MB_none σ
  have hc5 : CallE Try.prog 14 [] σ _ := law12_head_ok h3 
  with_unfolding_all refine TY_call hM4 rfl en14 hc5 ?_
  intro v6 s10 hv7 hX8 hM9
  have hO11 := hO0.ext_call hX8
  obtain rfl := hv7
  with_unfolding_all refine TX_not rfl ?_
  with_unfolding_all refine TX_nil ?_
  with_unfolding_all refine thenQ_normal ?_
  with_unfolding_all refine TE_cond rfl (fun hc12 => ?_) (fun hc12 => ?_)
  · skip
    replace hF := ite_t hc12 hF
    with_unfolding_all refine TE_seq ?_
    with_unfolding_all refine TE_seqY ?_
    have hM13 := MB_none s10
    with_unfolding_all refine TX_assign rfl ?_
    with_unfolding_all refine TX_nil ?_
    with_unfolding_all refine thenQ_normal ?_
    with_unfolding_all refine TE_ret ?_
    with_unfolding_all refine thenQ_ret ?_
    obtain rfl := some_s hF
    exact done_any (vs := [.bool (false)]) (.inr rfl) rfl (resR_tmp rfl resR_nil) ⟨rfl, hO11.ext⟩
  · skip
    replace hF := ite_f hc12 hF
    with_unfolding_all refine TE_skip ?_
    with_unfolding_all refine thenQ_normal ?_
    with_unfolding_all refine TE_seq ?_
    with_unfolding_all refine TE_seq ?_
    obtain ⟨x14, h15, hF⟩ := bind_s hF
    obtain ⟨r18, h19, hF⟩ := bind_s hF
    refine TE_cutQ (fun z => ∃ (s21 : Mem), Own σ [] s21 [] ∧ Le z ⟨fr 81 [(0, v0_), (1, v1_), (24, .bool (r18))], [], s21⟩) ?_ ?_
    · skip
      with_unfolding_all refine TE_seqY ?_
      have hM24 := MB_none s10
      with_unfolding_all refine TX_move rfl ?_
      have hc25 : CallE Try.prog 15 [v0_, .int .i64 (30)] s10 _ := law12_Good_ok h15 h0_ rfl
      with_unfolding_all refine TY_call hM24 rfl en15 hc25 ?_
      intro v26 s30 hv27 hX28 hM29
      have hO31 := hO11.ext_call hX28
      obtain rfl := hv27
      with_unfolding_all refine TX_not rfl ?_
      with_unfolding_all refine TX_move rfl ?_
      with_unfolding_all refine TX_guard_f rfl rfl (fun hc32 => ?_) (fun hc32 => ?_)
      · skip
        replace h19 := ite_t hc32 h19
        obtain rfl := some_s h19
        with_unfolding_all refine TX_guard_no_f rfl rfl hc32 ?_
        with_unfolding_all refine TX_guard_no_f rfl rfl hc32 ?_
        with_unfolding_all refine TX_pick_t rfl hc32 rfl ?_
        with_unfolding_all refine TX_nil ?_
        exact joinQ_normal ⟨s30, (hO31.sub 0 rfl), (Le_fr ⟨rfl, ⟨rfl, ⟨rfl, trivial⟩⟩⟩)⟩
      · skip
        replace h19 := ite_f hc32 h19
        obtain ⟨x16, h17, h19⟩ := bind_s h19
        with_unfolding_all refine TX_move rfl ?_
        with_unfolding_all refine TX_guard_yes rfl rfl hc32 ?_
        have hc33 : CallE Try.prog 15 [v1_, .int .i64 (30)] s30 _ := law12_Good_ok h17 h1_ rfl
        with_unfolding_all refine TY_call hM29 rfl en15 hc33 ?_
        intro v34 s38 hv35 hX36 hM37
        have hO39 := hO31.ext_call hX36
        obtain rfl := hv35
        with_unfolding_all refine TX_guard_yes rfl rfl hc32 ?_
        with_unfolding_all refine TX_not rfl ?_
        with_unfolding_all refine TX_pick_f rfl hc32 rfl ?_
        obtain rfl := some_s h19
        with_unfolding_all refine TX_nil ?_
        exact joinQ_normal ⟨s38, (hO39.sub 0 rfl), (Le_fr ⟨rfl, ⟨rfl, ⟨rfl, trivial⟩⟩⟩)⟩
    · skip
      rintro zj20 ⟨s21, hO22, hz23⟩
      with_unfolding_all refine thenQ_normal ?_
      refine TE_pre hz23 ?_
      with_unfolding_all refine TE_cond rfl (fun hc40 => ?_) (fun hc40 => ?_)
      · skip
        replace hF := ite_t hc40 hF
        with_unfolding_all refine TE_seq ?_
        with_unfolding_all refine TE_seqY ?_
        have hM41 := MB_none s21
        with_unfolding_all refine TX_assign rfl ?_
        with_unfolding_all refine TX_nil ?_
        with_unfolding_all refine thenQ_normal ?_
        with_unfolding_all refine TE_ret ?_
        with_unfolding_all refine thenQ_ret ?_
        obtain rfl := some_s hF
        exact done_any (vs := [.bool (true)]) (.inr rfl) rfl (resR_tmp rfl resR_nil) ⟨rfl, hO22.ext⟩
      · skip
        replace hF := ite_f hc40 hF
        with_unfolding_all refine TE_skip ?_
        with_unfolding_all refine thenQ_normal ?_
        with_unfolding_all refine TE_seq ?_
        with_unfolding_all refine TE_seqY ?_
        have hM42 := MB_none s21
        have h43 : All2 e_match_Match.rel ([] : List AV) ([] : (List match_Match)) := trivial
        with_unfolding_all refine TY_buildSlice rfl rfl rfl rfl rfl h43 rfl (by decide) (by with_unfolding_all exact Nat.le_of_ble_eq_true rfl) ?_
        have h44 : RS e_match_Match (.sl [] .full) ([] : (List match_Match)) := RS.of h43
        with_unfolding_all refine TX_assign rfl ?_
        with_unfolding_all refine TX_nil ?_
        with_unfolding_all refine thenQ_normal ?_
        with_unfolding_all refine TE_seq ?_
        with_unfolding_all refine TE_seq ?_
        with_unfolding_all refine TE_seqY ?_
        have hM45 := MB_none s21
        with_unfolding_all refine TX_move rfl ?_
        with_unfolding_all refine TY_len rfl rfl rfl rfl h0_ rfl ?_
        with_unfolding_all refine TX_move rfl ?_
        with_unfolding_all refine TX_nil ?_
        with_unfolding_all refine thenQ_normal ?_
        with_unfolding_all refine TE_block ?_
        obtain ⟨p52, h58, hF⟩ := bind_s hF
        refine TE_iter (f := F.law12_MatchMild_s1 x0_ x1_) (s0 := (([] : (List match_Match)), 0)) (a := p52) (fun (q46 : ((List match_Match) × Int)) z => ∃ (u48 : AV) (s50 : Mem), RS e_match_Match u48 q46.1 ∧ Own σ [] s50 [.buf u48] ∧ Le z ⟨fr 81 [(0, v0_), (1, v1_), (5, u48), (26, v0_), (27, .int .i64 ((x0_.length : Int))), (28, .int .i64 (q46.2))], [], s50⟩) (fun (p52 : (List match_Match)) e z => (e = .exit 0 ∧ ∃ (u53 : AV) (s55 : Mem), RS e_match_Match u53 p52 ∧ Own σ [] s55 [.buf u53] ∧ Le z ⟨fr 81 [(0, v0_), (1, v1_), (5, u53)], [], s55⟩)) h58 ?_ ?_ ?_
        · skip
          have hO59 : Own σ [] s21 [.buf (.sl [] .full)] := hO22.bufFull []
          exact ⟨(.sl [] .full), s21, h44, (hO59.sub 1 rfl), (Le_fr ⟨rfl, ⟨rfl, ⟨rfl, ⟨rfl, ⟨rfl, ⟨rfl, trivial⟩⟩⟩⟩⟩⟩)⟩
        · skip
          clear hF
          rintro q46 zq46 r47 ⟨u48, s50, h49, hO51, hz60⟩ hF
          unfold F.law12_MatchMild_s1 at hF
          refine TE_pre hz60 ?_
          with_unfolding_all refine TE_seq ?_
          with_unfolding_all refine TE_seqY ?_
          have hM61 := MB_none s50
          with_unfolding_all refine TX_cmp rfl rfl rfl ?_
          with_unfolding_all refine TX_nil ?_
          with_unfolding_all refine thenQ_normal ?_
          with_unfolding_all refine TE_seq ?_
          with_unfolding_all refine TE_cond rfl (fun hc62 => ?_) (fun hc62 => ?_)
          · skip
            replace hF := ite_t hc62 hF
            with_unfolding_all refine TE_skip ?_
            with_unfolding_all refine thenQ_normal ?_
            with_unfolding_all refine TE_seq ?_
            with_unfolding_all refine TE_block ?_
            with_unfolding_all refine TE_seq ?_
            obtain ⟨x63, h64, hF⟩ := bind_s hF
            with_unfolding_all refine TE_seqY ?_
            have hM69 := MB_none s50
            with_unfolding_all refine TY_idx (E := e_match_Match) rfl rfl rfl h0_ rfl h64 ?_
            intro u70 h71
            obtain ⟨u72, u74, rfl, h73, h75⟩ := h71
            with_unfolding_all refine TX_load_c rfl rfl ?_
            with_unfolding_all refine TY_alloc hO51 hM69 rfl rfl ?_
            rintro id76 s77 (hO78 : Own σ [] s77 [.obj id76 [.nils, .nils], .buf u48]) hM79
            with_unfolding_all refine TY_store (v := .agg [u72, u74]) (vc := [u72, u74]) hO78 hM79 (MNe.none _) rfl rfl rfl rfl (by with_unfolding_all exact Nat.le_of_ble_eq_true rfl) (ones_cons (RS.one1 h73) (ones_cons (RS.one1 h75) ones_nil)) rfl ?_
            rintro s80 (hO81 : Own σ [] s80 [.obj id76 [u72, u74], .buf u48]) hM82
            with_unfolding_all refine TX_nil ?_
            with_unfolding_all refine thenQ_normal ?_
            with_unfolding_all refine TE_seq ?_
            with_unfolding_all refine TE_seqY ?_
            have hM83 := MB_none s80
            with_unfolding_all refine TX_assign rfl ?_
            with_unfolding_all refine TX_nil ?_
            with_unfolding_all refine thenQ_normal ?_
            with_unfolding_all refine TE_seq ?_
            with_unfolding_all refine TE_seq ?_
            with_unfolding_all refine TE_seqY ?_
            have hM84 := MB_none s80
            with_unfolding_all refine TX_fieldAddr_p rfl rfl rfl ?_
            with_unfolding_all refine TX_load_p rfl (MC_none (hO81.obj 0 rfl)) rfl ?_
            with_unfolding_all refine TY_len rfl rfl rfl rfl h73 rfl ?_
            with_unfolding_all refine TX_move rfl ?_
            with_unfolding_all refine TX_nil ?_
            with_unfolding_all refine thenQ_normal ?_
            with_unfolding_all refine TE_block ?_
            obtain ⟨p89, h93, hF⟩ := bind_s hF
            refine TE_iter (f := F.law12_MatchMild_s2 x1_ x63) (s0 := (true, 0)) (a := p89) (fun (q85 : (Bool × Int)) z => ∃ (s87 : Mem), Own σ [] s87 [.obj id76 [u72, u74], .buf u48] ∧ Le z ⟨fr 81 [(0, v0_), (1, v1_), (5, u48), (7, .ptr id76 0), (8, .bool (q85.1)), (26, v0_), (27, .int .i64 ((x0_.length : Int))), (28, .int .i64 (q46.2)), (33, u72), (34, .int .i64 ((x63.In.length : Int))), (35, .int .i64 (q85.2))], [], s87⟩) (fun (p89 : Bool) e z => (e = .exit 2 ∧ ∃ (s90 : Mem), Own σ [] s90 [.obj id76 [u72, u74], .buf u48] ∧ Le z ⟨fr 81 [(0, v0_), (1, v1_), (5, u48), (7, .ptr id76 0), (8, .bool (p89)), (26, v0_), (27, .int .i64 ((x0_.length : Int))), (28, .int .i64 (q46.2))], [], s90⟩)) h93 ?_ ?_ ?_
            · skip
              have hO94 : Own σ [] s80 [.buf u48, .obj id76 [u72, u74]] := hO81.front 1 rfl rfl
              have hO95 : Own σ [] s80 [.obj id76 [u72, u74], .buf u48] := hO94.front 1 rfl rfl
              exact ⟨s80, (hO95.sub 2 rfl), (Le_fr ⟨rfl, ⟨rfl, ⟨rfl, ⟨rfl, ⟨rfl, ⟨rfl, ⟨rfl, ⟨rfl, ⟨rfl, ⟨rfl, ⟨rfl, trivial⟩⟩⟩⟩⟩⟩⟩⟩⟩⟩⟩)⟩
            · skip
              clear hF
              rintro q85 zq85 r86 ⟨s87, hO88, hz96⟩ hF
              unfold F.law12_MatchMild_s2 at hF
              refine TE_pre hz96 ?_
              with_unfolding_all refine TE_seq ?_
              with_unfolding_all refine TE_seqY ?_
              have hM97 := MB_none s87
              with_unfolding_all refine TX_cmp rfl rfl rfl ?_
              with_unfolding_all refine TX_nil ?_
              with_unfolding_all refine thenQ_normal ?_
              with_unfolding_all refine TE_seq ?_
              with_unfolding_all refine TE_cond rfl (fun hc98 => ?_) (fun hc98 => ?_)
              · skip
                replace hF := ite_t hc98 hF
                with_unfolding_all refine TE_skip ?_
                with_unfolding_all refine thenQ_normal ?_
                with_unfolding_all refine TE_seq ?_
                with_unfolding_all refine TE_block ?_
                with_unfolding_all refine TE_seq ?_
                obtain ⟨x99, h100, hF⟩ := bind_s hF
                with_unfolding_all refine TE_seqY ?_
                have hM101 := MB_none s87
                with_unfolding_all refine TY_idx (E := e_match_Span) rfl rfl rfl h73 rfl h100 ?_
                intro u102 h103
                obtain rfl := h103
                with_unfolding_all refine TX_load_c rfl rfl ?_
                with_unfolding_all refine TY_alloc hO88 hM101 rfl rfl ?_
                rintro id104 s105 (hO106 : Own σ [] s105 [.obj id104 [.int .i64 (0), .int .i64 (0), .int .i64 (0), .int .i64 (0)], .obj id76 [u72, u74], .buf u48]) hM107
                with_unfolding_all refine TY_store (v := .agg [.int .i64 (x99.From), .int .i64 (x99.To), .int .i64 (x99.Part), .int .i64 (x99.Weight)]) (vc := [.int .i64 (x99.From), .int .i64 (x99.To), .int .i64 (x99.Part), .int .i64 (x99.Weight)]) hO106 hM107 (MNe.none _) rfl rfl rfl rfl (by with_unfolding_all exact Nat.le_of_ble_eq_true rfl) (ones_cons rfl (ones_cons rfl (ones_cons rfl (ones_cons rfl ones_nil)))) rfl ?_
                rintro s108 (hO109 : Own σ [] s108 [.obj id104 [.int .i64 (x99.From), .int .i64 (x99.To), .int .i64 (x99.Part), .int .i64 (x99.Weight)], .obj id76 [u72, u74], .buf u48]) hM110
                with_unfolding_all refine TX_nil ?_
                with_unfolding_all refine thenQ_normal ?_
                with_unfolding_all refine TE_seq ?_
                with_unfolding_all refine TE_seqY ?_
                have hM111 := MB_none s108
                with_unfolding_all refine TX_move rfl ?_
                with_unfolding_all refine TY_len rfl rfl rfl rfl h1_ rfl ?_
                with_unfolding_all refine TX_move rfl ?_
                with_unfolding_all refine TX_nil ?_
                with_unfolding_all refine thenQ_normal ?_
                with_unfolding_all refine TE_block ?_
                obtain ⟨p116, h120, hF⟩ := bind_s hF
                refine TE_iter (f := F.law12_MatchMild_s3 x1_ x99) (s0 := (q85.1, 0)) (a := p116) (fun (q112 : (Bool × Int)) z => ∃ (s114 : Mem), Own σ [] s114 [.obj id104 [.int .i64 (x99.From), .int .i64 (x99.To), .int .i64 (x99.Part), .int .i64 (x99.Weight)], .obj id76 [u72, u74], .buf u48] ∧ Le z ⟨fr 81 [(0, v0_), (1, v1_), (5, u48), (7, .ptr id76 0), (8, .bool (q112.1)), (10, .ptr id104 0), (26, v0_), (27, .int .i64 ((x0_.length : Int))), (28, .int .i64 (q46.2)), (33, u72), (34, .int .i64 ((x63.In.length : Int))), (35, .int .i64 (q85.2)), (39, v1_), (40, .int .i64 ((x1_.length : Int))), (41, .int .i64 (q112.2))], [], s114⟩) (fun (p116 : Bool) e z => (e = .exit 4 ∧ ∃ (s117 : Mem), Own σ [] s117 [.obj id104 [.int .i64 (x99.From), .int .i64 (x99.To), .int .i64 (x99.Part), .int .i64 (x99.Weight)], .obj id76 [u72, u74], .buf u48] ∧ Le z ⟨fr 81 [(0, v0_), (1, v1_), (5, u48), (7, .ptr id76 0), (8, .bool (p116)), (26, v0_), (27, .int .i64 ((x0_.length : Int))), (28, .int .i64 (q46.2)), (33, u72), (34, .int .i64 ((x63.In.length : Int))), (35, .int .i64 (q85.2))], [], s117⟩)) h120 ?_ ?_ ?_
                · skip
                  have hO121 : Own σ [] s108 [.buf u48, .obj id104 [.int .i64 (x99.From), .int .i64 (x99.To), .int .i64 (x99.Part), .int .i64 (x99.Weight)], .obj id76 [u72, u74]] := hO109.front 2 rfl rfl
                  have hO122 : Own σ [] s108 [.obj id76 [u72, u74], .buf u48, .obj id104 [.int .i64 (x99.From), .int .i64 (x99.To), .int .i64 (x99.Part), .int .i64 (x99.Weight)]] := hO121.front 2 rfl rfl
                  have hO123 : Own σ [] s108 [.obj id104 [.int .i64 (x99.From), .int .i64 (x99.To), .int .i64 (x99.Part), .int .i64 (x99.Weight)], .obj id76 [u72, u74], .buf u48] := hO122.front 2 rfl rfl
                  exact ⟨s108, (hO123.sub 3 rfl), (Le_fr ⟨rfl, ⟨rfl, ⟨rfl, ⟨rfl, ⟨rfl, ⟨rfl, ⟨rfl, ⟨rfl, ⟨rfl, ⟨rfl, ⟨rfl, ⟨rfl, ⟨rfl, ⟨rfl, ⟨rfl, trivial⟩⟩⟩⟩⟩⟩⟩⟩⟩⟩⟩⟩⟩⟩⟩)⟩
                · skip
                  clear hF
                  rintro q112 zq112 r113 ⟨s114, hO115, hz124⟩ hF
                  unfold F.law12_MatchMild_s3 at hF
                  refine TE_pre hz124 ?_
                  with_unfolding_all refine TE_seq ?_
                  with_unfolding_all refine TE_seqY ?_
                  have hM125 := MB_none s114
                  with_unfolding_all refine TX_cmp rfl rfl rfl ?_
                  with_unfolding_all refine TX_nil ?_
                  with_unfolding_all refine thenQ_normal ?_
                  with_unfolding_all refine TE_seq ?_
                  with_unfolding_all refine TE_cond rfl (fun hc126 => ?_) (fun hc126 => ?_)
                  · skip
                    replace hF := ite_t hc126 hF
                    with_unfolding_all refine TE_skip ?_
                    with_unfolding_all refine thenQ_normal ?_
                    with_unfolding_all refine TE_seq ?_
                    with_unfolding_all refine TE_block ?_
                    with_unfolding_all refine TE_seq ?_
                    obtain ⟨x127, h128, hF⟩ := bind_s hF
                    with_unfolding_all refine TE_seqY ?_
                    have hM133 := MB_none s114
                    with_unfolding_all refine TY_idx (E := e_match_Match) rfl rfl rfl h1_ rfl h128 ?_
                    intro u134 h135
                    obtain ⟨u136, u138, rfl, h137, h139⟩ := h135
                    with_unfolding_all refine TX_load_c rfl rfl ?_
                    with_unfolding_all refine TY_alloc hO115 hM133 rfl rfl ?_
                    rintro id140 s141 (hO142 : Own σ [] s141 [.obj id140 [.nils, .nils], .obj id104 [.int .i64 (x99.From), .int .i64 (x99.To), .int .i64 (x99.Part), .int .i64 (x99.Weight)], .obj id76 [u72, u74], .buf u48]) hM143
                    with_unfolding_all refine TY_store (v := .agg [u136, u138]) (vc := [u136, u138]) hO142 hM143 (MNe.none _) rfl rfl rfl rfl (by with_unfolding_all exact Nat.le_of_ble_eq_true rfl) (ones_cons (RS.one1 h137) (ones_cons (RS.one1 h139) ones_nil)) rfl ?_
                    rintro s144 (hO145 : Own σ [] s144 [.obj id140 [u136, u138], .obj id104 [.int .i64 (x99.From), .int .i64 (x99.To), .int .i64 (x99.Part), .int .i64 (x99.Weight)], .obj id76 [u72, u74], .buf u48]) hM146
                    with_unfolding_all refine TX_nil ?_
                    with_unfolding_all refine thenQ_normal ?_
                    with_unfolding_all refine TE_seq ?_
                    with_unfolding_all refine TE_seqY ?_
                    have hM147 := MB_none s144
                    with_unfolding_all refine TX_fieldAddr_p rfl rfl rfl ?_
                    with_unfolding_all refine TX_load_p rfl (MC_none (hO145.obj 0 rfl)) rfl ?_
                    with_unfolding_all refine TY_len rfl rfl rfl rfl h137 rfl ?_
                    with_unfolding_all refine TX_move rfl ?_
                    with_unfolding_all refine TX_nil ?_
                    with_unfolding_all refine thenQ_normal ?_
                    with_unfolding_all refine TE_block ?_
                    obtain ⟨p152, h156, hF⟩ := bind_s hF
                    refine TE_iter (f := F.law12_MatchMild_s4 x99 x127) (s0 := (q112.1, 0)) (a := p152) (fun (q148 : (Bool × Int)) z => ∃ (s150 : Mem), Own σ [] s150 [.obj id140 [u136, u138], .obj id104 [.int .i64 (x99.From), .int .i64 (x99.To), .int .i64 (x99.Part), .int .i64 (x99.Weight)], .obj id76 [u72, u74], .buf u48] ∧ Le z ⟨fr 81 [(0, v0_), (1, v1_), (5, u48), (7, .ptr id76 0), (8, .bool (q148.1)), (10, .ptr id104 0), (26, v0_), (27, .int .i64 ((x0_.length : Int))), (28, .int .i64 (q46.2)), (33, u72), (34, .int .i64 ((x63.In.length : Int))), (35, .int .i64 (q85.2)), (39, v1_), (40, .int .i64 ((x1_.length : Int))), (41, .int .i64 (q112.2)), (46, u136), (47, .int .i64 ((x127.In.length : Int))), (48, .int .i64 (q148.2))], [], s150⟩) (fun (p152 : Bool) e z => (e = .exit 6 ∧ ∃ (s153 : Mem), Own σ [] s153 [.obj id140 [u136, u138], .obj id104 [.int .i64 (x99.From), .int .i64 (x99.To), .int .i64 (x99.Part), .int .i64 (x99.Weight)], .obj id76 [u72, u74], .buf u48] ∧ Le z ⟨fr 81 [(0, v0_), (1, v1_), (5, u48), (7, .ptr id76 0), (8, .bool (p152)), (10, .ptr id104 0), (26, v0_), (27, .int .i64 ((x0_.length : Int))), (28, .int .i64 (q46.2)), (33, u72), (34, .int .i64 ((x63.In.length : Int))), (35, .int .i64 (q85.2)), (39, v1_), (40, .int .i64 ((x1_.length : Int))), (41, .int .i64 (q112.2))], [], s153⟩)) h156 ?_ ?_ ?_
                    · skip
                      have hO157 : Own σ [] s144 [.buf u48, .obj id140 [u136, u138], .obj id104 [.int .i64 (x99.From), .int .i64 (x99.To), .int .i64 (x99.Part), .int .i64 (x99.Weight)], .obj id76 [u72, u74]] := hO145.front 3 rfl rfl
                      have hO158 : Own σ [] s144 [.obj id76 [u72, u74], .buf u48, .obj id140 [u136, u138], .obj id104 [.int .i64 (x99.From), .int .i64 (x99.To), .int .i64 (x99.Part), .int .i64 (x99.Weight)]] := hO157.front 3 rfl rfl
                      have hO159 : Own σ [] s144 [.obj id104 [.int .i64 (x99.From), .int .i64 (x99.To), .int .i64 (x99.Part), .int .i64 (x99.Weight)], .obj id76 [u72, u74], .buf u48, .obj id140 [u136, u138]] := hO158.front 3 rfl rfl
                      have hO160 : Own σ [] s144 [.obj id140 [u136, u138], .obj id104 [.int .i64 (x99.From), .int .i64 (x99.To), .int .i64 (x99.Part), .int .i64 (x99.Weight)], .obj id76 [u72, u74], .buf u48] := hO159.front 3 rfl rfl
                      exact ⟨s144, (hO160.sub 4 rfl), (Le_fr ⟨rfl, ⟨rfl, ⟨rfl, ⟨rfl, ⟨rfl, ⟨rfl, ⟨rfl, ⟨rfl, ⟨rfl, ⟨rfl, ⟨rfl, ⟨rfl, ⟨rfl, ⟨rfl, ⟨rfl, ⟨rfl, ⟨rfl, ⟨rfl, trivial⟩⟩⟩⟩⟩⟩⟩⟩⟩⟩⟩⟩⟩⟩⟩⟩⟩⟩)⟩
                    · skip
                      clear hF
                      rintro q148 zq148 r149 ⟨s150, hO151, hz161⟩ hF
                      unfold F.law12_MatchMild_s4 at hF
                      refine TE_pre hz161 ?_
                      with_unfolding_all refine TE_seq ?_
                      with_unfolding_all refine TE_seqY ?_
                      have hM162 := MB_none s150
                      with_unfolding_all refine TX_cmp rfl rfl rfl ?_
                      with_unfolding_all refine TX_nil ?_
                      with_unfolding_all refine thenQ_normal ?_
                      with_unfolding_all refine TE_seq ?_
                      with_unfolding_all refine TE_cond rfl (fun hc163 => ?_) (fun hc163 => ?_)
                      · skip
                        replace hF := ite_t hc163 hF
                        with_unfolding_all refine TE_skip ?_
                        with_unfolding_all refine thenQ_normal ?_
                        with_unfolding_all refine TE_seq ?_
                        with_unfolding_all refine TE_block ?_
                        with_unfolding_all refine TE_seq ?_
                        obtain ⟨x164, h165, hF⟩ := bind_s hF
                        with_unfolding_all refine TE_seqY ?_
                        have hM166 := MB_none s150
                        with_unfolding_all refine TY_idx (E := e_match_Span) rfl rfl rfl h137 rfl h165 ?_
                        intro u167 h168
                        obtain rfl := h168
                        with_unfolding_all refine TX_load_c rfl rfl ?_
                        with_unfolding_all refine TY_alloc hO151 hM166 rfl rfl ?_
                        rintro id169 s170 (hO171 : Own σ [] s170 [.obj id169 [.int .i64 (0), .int .i64 (0), .int .i64 (0), .int .i64 (0)], .obj id140 [u136, u138], .obj id104 [.int .i64 (x99.From), .int .i64 (x99.To), .int .i64 (x99.Part), .int .i64 (x99.Weight)], .obj id76 [u72, u74], .buf u48]) hM172
                        with_unfolding_all refine TY_store (v := .agg [.int .i64 (x164.From), .int .i64 (x164.To), .int .i64 (x164.Part), .int .i64 (x164.Weight)]) (vc := [.int .i64 (x164.From), .int .i64 (x164.To), .int .i64 (x164.Part), .int .i64 (x164.Weight)]) hO171 hM172 (MNe.none _) rfl rfl rfl rfl (by with_unfolding_all exact Nat.le_of_ble_eq_true rfl) (ones_cons rfl (ones_cons rfl (ones_cons rfl (ones_cons rfl ones_nil)))) rfl ?_
                        rintro s173 (hO174 : Own σ [] s173 [.obj id169 [.int .i64 (x164.From), .int .i64 (x164.To), .int .i64 (x164.Part), .int .i64 (x164.Weight)], .obj id140 [u136, u138], .obj id104 [.int .i64 (x99.From), .int .i64 (x99.To), .int .i64 (x99.Part), .int .i64 (x99.Weight)], .obj id76 [u72, u74], .buf u48]) hM175
                        with_unfolding_all refine TX_nil ?_
                        with_unfolding_all refine thenQ_normal ?_
                        obtain ⟨r178, h179, hF⟩ := bind_s hF
                        refine TE_cutQ (fun z => ∃ (s181 : Mem), Own σ [] s181 [.obj id169 [.int .i64 (x164.From), .int .i64 (x164.To), .int .i64 (x164.Part), .int .i64 (x164.Weight)], .obj id140 [u136, u138], .obj id104 [.int .i64 (x99.From), .int .i64 (x99.To), .int .i64 (x99.Part), .int .i64 (x99.Weight)], .obj id76 [u72, u74], .buf u48] ∧ Le z ⟨fr 81 [(0, v0_), (1, v1_), (5, u48), (7, .ptr id76 0), (8, .bool (r178)), (10, .ptr id104 0), (26, v0_), (27, .int .i64 ((x0_.length : Int))), (28, .int .i64 (q46.2)), (33, u72), (34, .int .i64 ((x63.In.length : Int))), (35, .int .i64 (q85.2)), (39, v1_), (40, .int .i64 ((x1_.length : Int))), (41, .int .i64 (q112.2)), (46, u136), (47, .int .i64 ((x127.In.length : Int))), (48, .int .i64 (q148.2))], [], s181⟩) ?_ ?_
                        · skip
                          with_unfolding_all refine TE_seqY ?_
                          have hM184 := MB_none s173
                          with_unfolding_all refine TX_move rfl ?_
                          with_unfolding_all refine TX_move rfl ?_
                          with_unfolding_all refine TX_guard_t rfl rfl (fun hc185 => ?_) (fun hc185 => ?_)
                          · skip
                            replace h179 := ite_t hc185 h179
                            obtain ⟨r176, h177, h179⟩ := bind_s h179
                            with_unfolding_all refine TX_fieldAddr_p rfl rfl rfl ?_
                            with_unfolding_all refine TX_guard_yes rfl rfl hc185 ?_
                            with_unfolding_all refine TX_load_p rfl (MC_none (hO174.obj 2 rfl)) rfl ?_
                            with_unfolding_all refine TX_guard_yes rfl rfl hc185 ?_
                            with_unfolding_all refine TX_fieldAddr_p rfl rfl rfl ?_
                            with_unfolding_all refine TX_guard_yes rfl rfl hc185 ?_
                            with_unfolding_all refine TX_load_p rfl (MC_none (hO174.obj 0 rfl)) rfl ?_
                            with_unfolding_all refine TX_guard_yes rfl rfl hc185 ?_
                            with_unfolding_all refine TX_cmp rfl rfl rfl ?_
                            with_unfolding_all refine TX_guard_yes rfl rfl hc185 ?_
                            with_unfolding_all refine TX_move rfl ?_
                            with_unfolding_all refine TX_guard_f rfl rfl (fun hc186 => ?_) (fun hc186 => ?_)
                            · skip
                              replace h177 := or_t hc186 h177
                              obtain rfl := some_s h177
                              with_unfolding_all refine TX_guard_no_f rfl rfl hc186 ?_
                              with_unfolding_all refine TX_guard_no_f rfl rfl hc186 ?_
                              with_unfolding_all refine TX_guard_no_f rfl rfl hc186 ?_
                              with_unfolding_all refine TX_guard_no_f rfl rfl hc186 ?_
                              with_unfolding_all refine TX_guard_yes rfl rfl hc185 ?_
                              with_unfolding_all refine TX_pick_t rfl hc186 rfl ?_
                              with_unfolding_all refine TX_pick_t rfl hc185 rfl ?_
                              obtain rfl := some_s h179
                              with_unfolding_all refine TX_assign rfl ?_
                              with_unfolding_all refine TX_nil ?_
                              have hO187 : Own σ [] s173 [.buf u48, .obj id169 [.int .i64 (x164.From), .int .i64 (x164.To), .int .i64 (x164.Part), .int .i64 (x164.Weight)], .obj id140 [u136, u138], .obj id104 [.int .i64 (x99.From), .int .i64 (x99.To), .int .i64 (x99.Part), .int .i64 (x99.Weight)], .obj id76 [u72, u74]] := hO174.front 4 rfl rfl
                              have hO188 : Own σ [] s173 [.obj id76 [u72, u74], .buf u48, .obj id169 [.int .i64 (x164.From), .int .i64 (x164.To), .int .i64 (x164.Part), .int .i64 (x164.Weight)], .obj id140 [u136, u138], .obj id104 [.int .i64 (x99.From), .int .i64 (x99.To), .int .i64 (x99.Part), .int .i64 (x99.Weight)]] := hO187.front 4 rfl rfl
                              have hO189 : Own σ [] s173 [.obj id104 [.int .i64 (x99.From), .int .i64 (x99.To), .int .i64 (x99.Part), .int .i64 (x99.Weight)], .obj id76 [u72, u74], .buf u48, .obj id169 [.int .i64 (x164.From), .int .i64 (x164.To), .int .i64 (x164.Part), .int .i64 (x164.Weight)], .obj id140 [u136, u138]] := hO188.front 4 rfl rfl
                              have hO190 : Own σ [] s173 [.obj id140 [u136, u138], .obj id104 [.int .i64 (x99.From), .int .i64 (x99.To), .int .i64 (x99.Part), .int .i64 (x99.Weight)], .obj id76 [u72, u74], .buf u48, .obj id169 [.int .i64 (x164.From), .int .i64 (x164.To), .int .i64 (x164.Part), .int .i64 (x164.Weight)]] := hO189.front 4 rfl rfl
                              have hO191 : Own σ [] s173 [.obj id169 [.int .i64 (x164.From), .int .i64 (x164.To), .int .i64 (x164.Part), .int .i64 (x164.Weight)], .obj id140 [u136, u138], .obj id104 [.int .i64 (x99.From), .int .i64 (x99.To), .int .i64 (x99.Part), .int .i64 (x99.Weight)], .obj id76 [u72, u74], .buf u48] := hO190.front 4 rfl rfl
                              exact joinQ_normal ⟨s173, (hO191.sub 5 rfl), (Le_fr ⟨rfl, ⟨rfl, ⟨rfl, ⟨rfl, ⟨rfl, ⟨rfl, ⟨rfl, ⟨rfl, ⟨rfl, ⟨rfl, ⟨rfl, ⟨rfl, ⟨rfl, ⟨rfl, ⟨rfl, ⟨rfl, ⟨rfl, ⟨rfl, trivial⟩⟩⟩⟩⟩⟩⟩⟩⟩⟩⟩⟩⟩⟩⟩⟩⟩⟩)⟩
                            · skip
                              replace h177 := or_f hc186 h177
                              with_unfolding_all refine TX_fieldAddr_p rfl rfl rfl ?_
                              with_unfolding_all refine TX_guard_yes rfl rfl hc186 ?_
                              with_unfolding_all refine TX_load_p rfl (MC_none (hO174.obj 2 rfl)) rfl ?_
                              with_unfolding_all refine TX_guard_yes rfl rfl hc186 ?_
                              with_unfolding_all refine TX_fieldAddr_p rfl rfl rfl ?_
                              with_unfolding_all refine TX_guard_yes rfl rfl hc186 ?_
                              with_unfolding_all refine TX_load_p rfl (MC_none (hO174.obj 0 rfl)) rfl ?_
                              with_unfolding_all refine TX_guard_yes rfl rfl hc186 ?_
                              with_unfolding_all refine TX_cmp rfl rfl rfl ?_
                              with_unfolding_all refine TX_guard_yes rfl rfl hc185 ?_
                              with_unfolding_all refine TX_pick_f rfl hc186 rfl ?_
                              obtain rfl := some_s h177
                              with_unfolding_all refine TX_pick_t rfl hc185 rfl ?_
                              obtain rfl := some_s h179
                              with_unfolding_all refine TX_assign rfl ?_
                              with_unfolding_all refine TX_nil ?_
                              have hO192 : Own σ [] s173 [.buf u48, .obj id169 [.int .i64 (x164.From), .int .i64 (x164.To), .int .i64 (x164.Part), .int .i64 (x164.Weight)], .obj id140 [u136, u138], .obj id104 [.int .i64 (x99.From), .int .i64 (x99.To), .int .i64 (x99.Part), .int .i64 (x99.Weight)], .obj id76 [u72, u74]] := hO174.front 4 rfl rfl
                              have hO193 : Own σ [] s173 [.obj id76 [u72, u74], .buf u48, .obj id169 [.int .i64 (x164.From), .int .i64 (x164.To), .int .i64 (x164.Part), .int .i64 (x164.Weight)], .obj id140 [u136, u138], .obj id104 [.int .i64 (x99.From), .int .i64 (x99.To), .int .i64 (x99.Part), .int .i64 (x99.Weight)]] := hO192.front 4 rfl rfl
                              have hO194 : Own σ [] s173 [.obj id104 [.int .i64 (x99.From), .int .i64 (x99.To), .int .i64 (x99.Part), .int .i64 (x99.Weight)], .obj id76 [u72, u74], .buf u48, .obj id169 [.int .i64 (x164.From), .int .i64 (x164.To), .int .i64 (x164.Part), .int .i64 (x164.Weight)], .obj id140 [u136, u138]] := hO193.front 4 rfl rfl
                              have hO195 : Own σ [] s173 [.obj id140 [u136, u138], .obj id104 [.int .i64 (x99.From), .int .i64 (x99.To), .int .i64 (x99.Part), .int .i64 (x99.Weight)], .obj id76 [u72, u74], .buf u48, .obj id169 [.int .i64 (x164.From), .int .i64 (x164.To), .int .i64 (x164.Part), .int .i64 (x164.Weight)]] := hO194.front 4 rfl rfl
                              have hO196 : Own σ [] s173 [.obj id169 [.int .i64 (x164.From), .int .i64 (x164.To), .int .i64 (x164.Part), .int .i64 (x164.Weight)], .obj id140 [u136, u138], .obj id104 [.int .i64 (x99.From), .int .i64 (x99.To), .int .i64 (x99.Part), .int .i64 (x99.Weight)], .obj id76 [u72, u74], .buf u48] := hO195.front 4 rfl rfl
                              exact joinQ_normal ⟨s173, (hO196.sub 5 rfl), (Le_fr ⟨rfl, ⟨rfl, ⟨rfl, ⟨rfl, ⟨rfl, ⟨rfl, ⟨rfl, ⟨rfl, ⟨rfl, ⟨rfl, ⟨rfl, ⟨rfl, ⟨rfl, ⟨rfl, ⟨rfl, ⟨rfl, ⟨rfl, ⟨rfl, trivial⟩⟩⟩⟩⟩⟩⟩⟩⟩⟩⟩⟩⟩⟩⟩⟩⟩⟩)⟩
                          · skip
                            replace h179 := ite_f hc185 h179
                            obtain rfl := some_s h179
                            with_unfolding_all refine TX_guard_no_t rfl rfl hc185 ?_
                            with_unfolding_all refine TX_guard_no_t rfl rfl hc185 ?_
                            with_unfolding_all refine TX_guard_no_t rfl rfl hc185 ?_
                            with_unfolding_all refine TX_guard_no_t rfl rfl hc185 ?_
                            with_unfolding_all refine TX_guard_no_t rfl rfl hc185 ?_
                            with_unfolding_all refine TX_guard_un rfl rfl ?_
                            with_unfolding_all refine TX_guard_un rfl rfl ?_
                            with_unfolding_all refine TX_guard_un rfl rfl ?_
                            with_unfolding_all refine TX_guard_un rfl rfl ?_
                            with_unfolding_all refine TX_guard_un rfl rfl ?_
                            with_unfolding_all refine TX_guard_no_t rfl rfl hc185 ?_
                            with_unfolding_all refine TX_pick_f rfl hc185 rfl ?_
                            with_unfolding_all refine TX_assign rfl ?_
                            with_unfolding_all refine TX_nil ?_
                            have hO197 : Own σ [] s173 [.buf u48, .obj id169 [.int .i64 (x164.From), .int .i64 (x164.To), .int .i64 (x164.Part), .int .i64 (x164.Weight)], .obj id140 [u136, u138], .obj id104 [.int .i64 (x99.From), .int .i64 (x99.To), .int .i64 (x99.Part), .int .i64 (x99.Weight)], .obj id76 [u72, u74]] := hO174.front 4 rfl rfl
                            have hO198 : Own σ [] s173 [.obj id76 [u72, u74], .buf u48, .obj id169 [.int .i64 (x164.From), .int .i64 (x164.To), .int .i64 (x164.Part), .int .i64 (x164.Weight)], .obj id140 [u136, u138], .obj id104 [.int .i64 (x99.From), .int .i64 (x99.To), .int .i64 (x99.Part), .int .i64 (x99.Weight)]] := hO197.front 4 rfl rfl
                            have hO199 : Own σ [] s173 [.obj id104 [.int .i64 (x99.From), .int .i64 (x99.To), .int .i64 (x99.Part), .int .i64 (x99.Weight)], .obj id76 [u72, u74], .buf u48, .obj id169 [.int .i64 (x164.From), .int .i64 (x164.To), .int .i64 (x164.Part), .int .i64 (x164.Weight)], .obj id140 [u136, u138]] := hO198.front 4 rfl rfl
                            have hO200 : Own σ [] s173 [.obj id140 [u136, u138], .obj id104 [.int .i64 (x99.From), .int .i64 (x99.To), .int .i64 (x99.Part), .int .i64 (x99.Weight)], .obj id76 [u72, u74], .buf u48, .obj id169 [.int .i64 (x164.From), .int .i64 (x164.To), .int .i64 (x164.Part), .int .i64 (x164.Weight)]] := hO199.front 4 rfl rfl
                            have hO201 : Own σ [] s173 [.obj id169 [.int .i64 (x164.From), .int .i64 (x164.To), .int .i64 (x164.Part), .int .i64 (x164.Weight)], .obj id140 [u136, u138], .obj id104 [.int .i64 (x99.From), .int .i64 (x99.To), .int .i64 (x99.Part), .int .i64 (x99.Weight)], .obj id76 [u72, u74], .buf u48] := hO200.front 4 rfl rfl
                            exact joinQ_normal ⟨s173, (hO201.sub 5 rfl), (Le_fr ⟨rfl, ⟨rfl, ⟨rfl, ⟨rfl, ⟨rfl, ⟨rfl, ⟨rfl, ⟨rfl, ⟨rfl, ⟨rfl, ⟨rfl, ⟨rfl, ⟨rfl, ⟨rfl, ⟨rfl, ⟨rfl, ⟨rfl, ⟨rfl, trivial⟩⟩⟩⟩⟩⟩⟩⟩⟩⟩⟩⟩⟩⟩⟩⟩⟩⟩)⟩
                        · skip
                          rintro zj180 ⟨s181, hO182, hz183⟩
                          with_unfolding_all refine blockQ_normal ?_
                          with_unfolding_all refine thenQ_normal ?_
                          refine TE_pre hz183 ?_
                          with_unfolding_all refine TE_seqY ?_
                          have hM202 := MB_none s181
                          with_unfolding_all refine TX_ari rfl rfl rfl ?_
                          with_unfolding_all refine TX_move rfl ?_
                          with_unfolding_all refine TX_nil ?_
                          obtain rfl := some_s hF
                          have hO203 : Own σ [] s181 [.buf u48, .obj id169 [.int .i64 (x164.From), .int .i64 (x164.To), .int .i64 (x164.Part), .int .i64 (x164.Weight)], .obj id140 [u136, u138], .obj id104 [.int .i64 (x99.From), .int .i64 (x99.To), .int .i64 (x99.Part), .int .i64 (x99.Weight)], .obj id76 [u72, u74]] := hO182.front 4 rfl rfl
                          have hO204 : Own σ [] s181 [.obj id76 [u72, u74], .buf u48, .obj id169 [.int .i64 (x164.From), .int .i64 (x164.To), .int .i64 (x164.Part), .int .i64 (x164.Weight)], .obj id140 [u136, u138], .obj id104 [.int .i64 (x99.From), .int .i64 (x99.To), .int .i64 (x99.Part), .int .i64 (x99.Weight)]] := hO203.front 4 rfl rfl
                          have hO205 : Own σ [] s181 [.obj id104 [.int .i64 (x99.From), .int .i64 (x99.To), .int .i64 (x99.Part), .int .i64 (x99.Weight)], .obj id76 [u72, u74], .buf u48, .obj id169 [.int .i64 (x164.From), .int .i64 (x164.To), .int .i64 (x164.Part), .int .i64 (x164.Weight)], .obj id140 [u136, u138]] := hO204.front 4 rfl rfl
                          have hO206 : Own σ [] s181 [.obj id140 [u136, u138], .obj id104 [.int .i64 (x99.From), .int .i64 (x99.To), .int .i64 (x99.Part), .int .i64 (x99.Weight)], .obj id76 [u72, u74], .buf u48, .obj id169 [.int .i64 (x164.From), .int .i64 (x164.To), .int .i64 (x164.Part), .int .i64 (x164.Weight)]] := hO205.front 4 rfl rfl
                          exact iterQ_again ⟨s181, (hO206.sub 4 rfl), (Le_fr ⟨rfl, ⟨rfl, ⟨rfl, ⟨rfl, ⟨rfl, ⟨rfl, ⟨rfl, ⟨rfl, ⟨rfl, ⟨rfl, ⟨rfl, ⟨rfl, ⟨rfl, ⟨rfl, ⟨rfl, ⟨rfl, ⟨rfl, ⟨rfl, trivial⟩⟩⟩⟩⟩⟩⟩⟩⟩⟩⟩⟩⟩⟩⟩⟩⟩⟩)⟩
                      · skip
                        replace hF := ite_f hc163 hF
                        with_unfolding_all refine TE_exit ?_
                        with_unfolding_all refine thenQ_exit ?_
                        obtain rfl := some_s hF
                        have hO207 : Own σ [] s150 [.buf u48, .obj id140 [u136, u138], .obj id104 [.int .i64 (x99.From), .int .i64 (x99.To), .int .i64 (x99.Part), .int .i64 (x99.Weight)], .obj id76 [u72, u74]] := hO151.front 3 rfl rfl
                        have hO208 : Own σ [] s150 [.obj id76 [u72, u74], .buf u48, .obj id140 [u136, u138], .obj id104 [.int .i64 (x99.From), .int .i64 (x99.To), .int .i64 (x99.Part), .int .i64 (x99.Weight)]] := hO207.front 3 rfl rfl
                        have hO209 : Own σ [] s150 [.obj id104 [.int .i64 (x99.From), .int .i64 (x99.To), .int .i64 (x99.Part), .int .i64 (x99.Weight)], .obj id76 [u72, u74], .buf u48, .obj id140 [u136, u138]] := hO208.front 3 rfl rfl
                        have hO210 : Own σ [] s150 [.obj id140 [u136, u138], .obj id104 [.int .i64 (x99.From), .int .i64 (x99.To), .int .i64 (x99.Part), .int .i64 (x99.Weight)], .obj id76 [u72, u74], .buf u48] := hO209.front 3 rfl rfl
                        exact iterQ_exit (⟨rfl, s150, (hO210.sub 4 rfl), (Le_fr ⟨rfl, ⟨rfl, ⟨rfl, ⟨rfl, ⟨rfl, ⟨rfl, ⟨rfl, ⟨rfl, ⟨rfl, ⟨rfl, ⟨rfl, ⟨rfl, ⟨rfl, ⟨rfl, ⟨rfl, trivial⟩⟩⟩⟩⟩⟩⟩⟩⟩⟩⟩⟩⟩⟩⟩)⟩)
                    · skip
                      rintro eq148 zq148 (⟨rfl, s153, hO154, hz211⟩)
                      with_unfolding_all refine blockQ_out ?_
                      with_unfolding_all refine blockQ_normal ?_
                      with_unfolding_all refine thenQ_normal ?_
                      refine TE_pre hz211 ?_
                      with_unfolding_all refine TE_seqY ?_
                      have hM212 := MB_none s153
                      with_unfolding_all refine TX_ari rfl rfl rfl ?_
                      with_unfolding_all refine TX_move rfl ?_
                      with_unfolding_all refine TX_nil ?_
                      obtain rfl := some_s hF
                      have hO213 : Own σ [] s153 [.buf u48, .obj id140 [u136, u138], .obj id104 [.int .i64 (x99.From), .int .i64 (x99.To), .int .i64 (x99.Part), .int .i64 (x99.Weight)], .obj id76 [u72, u74]] := hO154.front 3 rfl rfl
                      have hO214 : Own σ [] s153 [.obj id76 [u72, u74], .buf u48, .obj id140 [u136, u138], .obj id104 [.int .i64 (x99.From), .int .i64 (x99.To), .int .i64 (x99.Part), .int .i64 (x99.Weight)]] := hO213.front 3 rfl rfl
                      have hO215 : Own σ [] s153 [.obj id104 [.int .i64 (x99.From), .int .i64 (x99.To), .int .i64 (x99.Part), .int .i64 (x99.Weight)], .obj id76 [u72, u74], .buf u48, .obj id140 [u136, u138]] := hO214.front 3 rfl rfl
                      exact iterQ_again ⟨s153, (hO215.sub 3 rfl), (Le_fr ⟨rfl, ⟨rfl, ⟨rfl, ⟨rfl, ⟨rfl, ⟨rfl, ⟨rfl, ⟨rfl, ⟨rfl, ⟨rfl, ⟨rfl, ⟨rfl, ⟨rfl, ⟨rfl, ⟨rfl, trivial⟩⟩⟩⟩⟩⟩⟩⟩⟩⟩⟩⟩⟩⟩⟩)⟩
                  · skip
                    replace hF := ite_f hc126 hF
                    with_unfolding_all refine TE_exit ?_
                    with_unfolding_all refine thenQ_exit ?_
                    obtain rfl := some_s hF
                    have hO216 : Own σ [] s114 [.buf u48, .obj id104 [.int .i64 (x99.From), .int .i64 (x99.To), .int .i64 (x99.Part), .int .i64 (x99.Weight)], .obj id76 [u72, u74]] := hO115.front 2 rfl rfl
                    have hO217 : Own σ [] s114 [.obj id76 [u72, u74], .buf u48, .obj id104 [.int .i64 (x99.From), .int .i64 (x99.To), .int .i64 (x99.Part), .int .i64 (x99.Weight)]] := hO216.front 2 rfl rfl
                    have hO218 : Own σ [] s114 [.obj id104 [.int .i64 (x99.From), .int .i64 (x99.To), .int .i64 (x99.Part), .int .i64 (x99.Weight)], .obj id76 [u72, u74], .buf u48] := hO217.front 2 rfl rfl
                    exact iterQ_exit (⟨rfl, s114, (hO218.sub 3 rfl), (Le_fr ⟨rfl, ⟨rfl, ⟨rfl, ⟨rfl, ⟨rfl, ⟨rfl, ⟨rfl, ⟨rfl, ⟨rfl, ⟨rfl, ⟨rfl, trivial⟩⟩⟩⟩⟩⟩⟩⟩⟩⟩⟩)⟩)
                · skip
                  rintro eq112 zq112 (⟨rfl, s117, hO118, hz219⟩)
                  with_unfolding_all refine blockQ_out ?_
                  with_unfolding_all refine blockQ_normal ?_
                  with_unfolding_all refine thenQ_normal ?_
                  refine TE_pre hz219 ?_
                  with_unfolding_all refine TE_seqY ?_
                  have hM220 := MB_none s117
                  with_unfolding_all refine TX_ari rfl rfl rfl ?_
                  with_unfolding_all refine TX_move rfl ?_
                  with_unfolding_all refine TX_nil ?_
                  obtain rfl := some_s hF
                  have hO221 : Own σ [] s117 [.buf u48, .obj id104 [.int .i64 (x99.From), .int .i64 (x99.To), .int .i64 (x99.Part), .int .i64 (x99.Weight)], .obj id76 [u72, u74]] := hO118.front 2 rfl rfl
                  have hO222 : Own σ [] s117 [.obj id76 [u72, u74], .buf u48, .obj id104 [.int .i64 (x99.From), .int .i64 (x99.To), .int .i64 (x99.Part), .int .i64 (x99.Weight)]] := hO221.front 2 rfl rfl
                  exact iterQ_again ⟨s117, (hO222.sub 2 rfl), (Le_fr ⟨rfl, ⟨rfl, ⟨rfl, ⟨rfl, ⟨rfl, ⟨rfl, ⟨rfl, ⟨rfl, ⟨rfl, ⟨rfl, ⟨rfl, trivial⟩⟩⟩⟩⟩⟩⟩⟩⟩⟩⟩)⟩
              · skip
                replace hF := ite_f hc98 hF
                with_unfolding_all refine TE_exit ?_
                with_unfolding_all refine thenQ_exit ?_
                obtain rfl := some_s hF
                have hO223 : Own σ [] s87 [.buf u48, .obj id76 [u72, u74]] := hO88.front 1 rfl rfl
                have hO224 : Own σ [] s87 [.obj id76 [u72, u74], .buf u48] := hO223.front 1 rfl rfl
                exact iterQ_exit (⟨rfl, s87, (hO224.sub 2 rfl), (Le_fr ⟨rfl, ⟨rfl, ⟨rfl, ⟨rfl, ⟨rfl, ⟨rfl, ⟨rfl, ⟨rfl, trivial⟩⟩⟩⟩⟩⟩⟩⟩)⟩)
            · skip
              rintro eq85 zq85 (⟨rfl, s90, hO91, hz225⟩)
              with_unfolding_all refine blockQ_out ?_
              with_unfolding_all refine thenQ_normal ?_
              refine TE_pre hz225 ?_
              with_unfolding_all refine TE_seq ?_
              with_unfolding_all refine TE_seqY ?_
              have hM226 := MB_none s90
              with_unfolding_all refine TX_move rfl ?_
              with_unfolding_all refine TX_nil ?_
              with_unfolding_all refine thenQ_normal ?_
              with_unfolding_all refine TE_cond rfl (fun hc227 => ?_) (fun hc227 => ?_)
              · skip
                replace hF := ite_t hc227 hF
                obtain ⟨x228, h229, hF⟩ := bind_s hF
                with_unfolding_all refine TE_seqY ?_
                have hM230 := MB_none s90
                with_unfolding_all refine TX_move rfl ?_
                with_unfolding_all refine TX_load_p rfl (MC_none (hO91.obj 0 rfl)) rfl ?_
                have h231 : All2 e_match_Match.rel ([.agg [u72, u74]] : List AV) ([x63] : (List match_Match)) := ⟨⟨u72, u74, rfl, h73, h75⟩, trivial⟩
                with_unfolding_all refine TY_buildSlice rfl rfl rfl rfl rfl h231 rfl (by decide) (by with_unfolding_all exact Nat.le_of_ble_eq_true rfl) ?_
                have h232 : RS e_match_Match (.sl [.agg [u72, u74]] .full) ([x63] : (List match_Match)) := RS.of h231
                have hO233 : Own σ [] s90 [.buf u48, .obj id76 [u72, u74]] := hO91.front 1 rfl rfl
                with_unfolding_all refine TY_append appT22_22 hO233 hM230 rfl rfl rfl rfl h49 rfl h232 h229 ?_
                rintro u234 s236 (h235 : RS e_match_Match u234 x228) (hO237 : Own σ [] s236 [.buf u234, .obj id76 [u72, u74]]) hM238
                with_unfolding_all refine TX_assign rfl ?_
                with_unfolding_all refine TX_nil ?_
                with_unfolding_all refine blockQ_normal ?_
                with_unfolding_all refine thenQ_normal ?_
                with_unfolding_all refine TE_seqY ?_
                have hM239 := MB_none s236
                with_unfolding_all refine TX_ari rfl rfl rfl ?_
                with_unfolding_all refine TX_move rfl ?_
                with_unfolding_all refine TX_nil ?_
                obtain rfl := some_s hF
                exact iterQ_again ⟨u234, s236, h235, (hO237.sub 1 rfl), (Le_fr ⟨rfl, ⟨rfl, ⟨rfl, ⟨rfl, ⟨rfl, ⟨rfl, trivial⟩⟩⟩⟩⟩⟩)⟩
              · skip
                replace hF := ite_f hc227 hF
                with_unfolding_all refine TE_skip ?_
                with_unfolding_all refine blockQ_normal ?_
                with_unfolding_all refine thenQ_normal ?_
                with_unfolding_all refine TE_seqY ?_
                have hM240 := MB_none s90
                with_unfolding_all refine TX_ari rfl rfl rfl ?_
                with_unfolding_all refine TX_move rfl ?_
                with_unfolding_all refine TX_nil ?_
                obtain rfl := some_s hF
                have hO241 : Own σ [] s90 [.buf u48, .obj id76 [u72, u74]] := hO91.front 1 rfl rfl
                exact iterQ_again ⟨u48, s90, h49, (hO241.sub 1 rfl), (Le_fr ⟨rfl, ⟨rfl, ⟨rfl, ⟨rfl, ⟨rfl, ⟨rfl, trivial⟩⟩⟩⟩⟩⟩)⟩
          · skip
            replace hF := ite_f hc62 hF
            with_unfolding_all refine TE_exit ?_
            with_unfolding_all refine thenQ_exit ?_
            obtain rfl := some_s hF
            exact iterQ_exit (⟨rfl, u48, s50, h49, (hO51.sub 1 rfl), (Le_fr ⟨rfl, ⟨rfl, ⟨rfl, trivial⟩⟩⟩)⟩)
        · skip
          rintro eq46 zq46 (⟨rfl, u53, s55, h54, hO56, hz242⟩)
          with_unfolding_all refine blockQ_out ?_
          with_unfolding_all refine thenQ_normal ?_
          refine TE_pre hz242 ?_
          with_unfolding_all refine TE_seq ?_
          obtain ⟨x243, h244, hF⟩ := bind_s hF
          obtain ⟨x245, h246, hF⟩ := bind_s hF
          with_unfolding_all refine TE_seqY ?_
          have hM247 := MB_none s55
          with_unfolding_all refine TX_move rfl ?_
          with_unfolding_all refine TX_move rfl ?_
          have hc248 : CallE Try.prog 17 [v0_, v1_] s55 _ := match_Mild_ok h244 h0_ h1_
          with_unfolding_all refine TY_call hM247 rfl en17 hc248 ?_
          intro v249 s253 hv250 hX251 hM252
          have hO254 := hO56.ext_call hX251
          with_unfolding_all refine TX_move rfl ?_
          have hc255 : CallE Try.prog 16 [v249, u53] s253 _ := law12_Same_ok h246 hv250 h54
          with_unfolding_all refine TY_call hM252 rfl en16 hc255 ?_
          intro v256 s260 hv257 hX258 hM259
          have hO261 := hO254.ext_call hX258
          obtain rfl := hv257
          with_unfolding_all refine TX_assign rfl ?_
          with_unfolding_all refine TX_nil ?_
          with_unfolding_all refine thenQ_normal ?_
          with_unfolding_all refine TE_ret ?_
          obtain rfl := some_s hF
          exact done_any (vs := [.bool (x245)]) (.inr rfl) rfl (resR_tmp rfl resR_nil) ⟨rfl, hO261.ext⟩
theorem slices_Grow_match_Match_match_Match_ok {N : Nat} (hN : N ≤ 2147483648) (σ : Mem) : CallE Try.prog 95 [.nils, .int .i64 N] σ (fun v σ' => GB e_match_Match σ σ' N v ([] : (List match_Match))) := by
  have hO0 := Own.start σ
  have h1 : decide ((N : Int) < 0) = false := decide_eq_false (by omega)
  have hw0 : IntKind.i64.wrap (0 - 0) = 0 := by decide
  have hw : IntKind.i64.wrap ((N : Int) - IntKind.i64.wrap (0 - 0)) = N := by rw [hw0]; exact (IntWalk.i64_in _ ⟨by omega, by omega⟩).trans (by omega)
  rcases Nat.eq_zero_or_pos N with hz | hz
  · have h2 : decide (IntKind.i64.wrap ((N : Int) - IntKind.i64.wrap (0 - 0)) > 0) = false := decide_eq_false (by rw [hw]; omega)
    refine CallE_of Try.func95 rfl Try.ntmps95 (by simp) ?_
    repeat' first
      | with_reducible refine TX_cap_nil (by with_unfolding_all rfl) (by with_unfolding_all rfl) (by with_unfolding_all rfl) (by with_unfolding_all rfl) (by with_unfolding_all rfl) ?_
      | with_reducible refine TX_len_nil (by with_unfolding_all rfl) (by with_unfolding_all rfl) (by with_unfolding_all rfl) (by with_unfolding_all rfl) (by with_unfolding_all rfl) ?_
      | refine TE_seq ?_
      | with_reducible refine TE_block ?_
      | with_reducible refine TE_seqY ?_
      | with_reducible refine TX_nil ?_
      | with_reducible refine thenQ_normal ?_
      | with_reducible refine thenQ_ret ?_
      | with_reducible refine blockQ_normal ?_
      | with_reducible refine blockQ_out ?_
      | with_reducible refine thenQ_exit ?_
      | with_reducible refine TX_move (by with_unfolding_all rfl) ?_
      | with_reducible refine TX_assign (by with_unfolding_all rfl) ?_
      | with_reducible refine TX_cmp (by with_unfolding_all rfl) (by with_unfolding_all rfl) (by with_unfolding_all rfl) ?_
      | with_reducible refine TX_ari (by with_unfolding_all rfl) (by with_unfolding_all rfl) (by with_unfolding_all rfl) ?_
      | with_reducible refine TE_cond_t (by with_unfolding_all rfl) (by first | assumption | with_unfolding_all rfl) ?_
      | with_reducible refine TE_cond_f (by with_unfolding_all rfl) (by first | assumption | with_unfolding_all rfl) ?_
      | with_reducible refine TE_ret ?_
      | with_reducible refine TE_skip ?_
      | with_reducible refine TE_exit ?_
    exact done_any (vs := [.nils]) (.inr rfl) rfl (resR_tmp (by with_unfolding_all rfl) resR_nil) (.inl ⟨hz, rfl, rfl, Ext.refl _⟩)
  · have h2 : decide (IntKind.i64.wrap ((N : Int) - IntKind.i64.wrap (0 - 0)) > 0) = true := decide_eq_true (by rw [hw]; omega)
    obtain ⟨cs, hcl, hap⟩ := make_nil (P := Try.prog) (σ := σ) (t := 22) (u := 3) (e := 27) (k := .i64) (by with_unfolding_all rfl) (by with_unfolding_all rfl) (by with_unfolding_all rfl) (by with_unfolding_all rfl) (by with_unfolding_all rfl) (by with_unfolding_all exact Nat.le_of_ble_eq_true rfl) hz hN
    have hap2 : appendX Try.prog σ 22 3 .nils (.int .i64 (IntKind.i64.wrap ((N : Int) - IntKind.i64.wrap (0 - 0)))) = some (.msl σ.length 0 N N, σ ++ [.cells cs]) := by rw [hw]; exact hap
    have hO1 := hO0.alloc cs
    refine CallE_of Try.func95 rfl Try.ntmps95 (by simp) ?_
    repeat' first
      | with_reducible refine TX_cap_nil (by with_unfolding_all rfl) (by with_unfolding_all rfl) (by with_unfolding_all rfl) (by with_unfolding_all rfl) (by with_unfolding_all rfl) ?_
      | with_reducible refine TX_len_nil (by with_unfolding_all rfl) (by with_unfolding_all rfl) (by with_unfolding_all rfl) (by with_unfolding_all rfl) (by with_unfolding_all rfl) ?_
      | with_reducible refine TX_slice_nil (by with_unfolding_all rfl) (by with_unfolding_all rfl) (by with_unfolding_all rfl) (by with_unfolding_all rfl) (by with_unfolding_all rfl) rfl ?_
      | with_reducible refine TX_appendX (by with_unfolding_all rfl) (by with_unfolding_all rfl) (by with_unfolding_all rfl) (by with_unfolding_all rfl) (by with_unfolding_all rfl) hap2 (MB_none _) ?_
      | with_reducible refine TX_mslice (by with_unfolding_all rfl) (by with_unfolding_all rfl) (by with_unfolding_all rfl) (by with_unfolding_all rfl) (by with_unfolding_all rfl) (by decide) (by decide) (by omega) (by omega) ?_
      | refine TE_seq ?_
      | with_reducible refine TE_block ?_
      | with_reducible refine TE_seqY ?_
      | with_reducible refine TX_nil ?_
      | with_reducible refine thenQ_normal ?_
      | with_reducible refine thenQ_ret ?_
      | with_reducible refine blockQ_normal ?_
      | with_reducible refine blockQ_out ?_
      | with_reducible refine thenQ_exit ?_
      | with_reducible refine TX_move (by with_unfolding_all rfl) ?_
      | with_reducible refine TX_assign (by with_unfolding_all rfl) ?_
      | with_reducible refine TX_cmp (by with_unfolding_all rfl) (by with_unfolding_all rfl) (by with_unfolding_all rfl) ?_
      | with_reducible refine TX_ari (by with_unfolding_all rfl) (by with_unfolding_all rfl) (by with_unfolding_all rfl) ?_
      | with_reducible refine TE_cond_t (by with_unfolding_all rfl) (by first | assumption | with_unfolding_all rfl) ?_
      | with_reducible refine TE_cond_f (by with_unfolding_all rfl) (by first | assumption | with_unfolding_all rfl) ?_
      | with_reducible refine TE_ret ?_
      | with_reducible refine TE_skip ?_
      | with_reducible refine TE_exit ?_
    exact done_any (vs := [.msl σ.length 0 0 N]) (.inr rfl) rfl (resR_tmp (by with_unfolding_all rfl) resR_nil) (Or.inr ⟨σ.length, cs, [], hz, rfl, hO1, hcl, by simp [flat], trivial⟩)
end Go.Proofs.Ytihbdelgoapeoaa.K
