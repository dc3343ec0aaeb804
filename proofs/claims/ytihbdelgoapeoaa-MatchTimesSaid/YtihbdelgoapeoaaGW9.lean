/- Walks. Printed. -/
import Derived.Test.YtihbdelgoapeoaaGW8
namespace Go.Proofs.Ytihbdelgoapeoaa.K
open Go Go.RowKit F
set_option maxRecDepth 100000
set_option maxHeartbeats 4000000
set_option linter.unusedVariables false
set_option linter.unusedSimpArgs false
theorem match_some_ok {x0_ : (List match_Match)} {x1_ : Int} {y : ((List match_Match) × Int)} (hF : F.match_some x0_ x1_ = some y) {v0_ : AV} {v1_ : AV} {σ : Mem} (h0_ : (RS e_match_Match) v0_ x0_) (h1_ : (eI .i64).rel v1_ x1_)  :
    CallE Try.prog 72 [v0_, v1_] σ (fun v σ' => (R2 (RS e_match_Match) (eI .i64).rel) v y ∧ Ext σ σ') := by
  unfold F.match_some at hF
  obtain rfl := h1_
  refine CallE_of Try.func72 rfl Try.ntmps72 (by simp) ?_
  have hO0 := Own.start σ
  with_unfolding_all refine TE_seq ?_
  with_unfolding_all refine TE_seqY ?_
  have hM1 := MB_none σ
  with_unfolding_all refine TX_assign rfl ?_
  with_unfolding_all refine TX_assign rfl ?_
  with_unfolding_all refine TX_nil ?_
  with_unfolding_all refine thenQ_normal ?_
  with_unfolding_all refine TE_seq ?_
  with_unfolding_all refine TE_seqY ?_
  have hM2 := MB_none σ
  with_unfolding_all refine TY_build [.nils, .nils, .int .i64 (0)] rfl rfl rfl (by with_unfolding_all exact Fill.nil _) (by with_unfolding_all rfl) ?_
  have h3 : All2 e_match_way.rel ([.agg [.nils, .nils, .int .i64 (0)]] : List AV) ([(F.match_way.mk (F.match_Match.mk [] []) 0)] : (List match_way)) := ⟨⟨.nils, .nils, rfl, (RS.nil e_match_Span), (RS.nil e_match_Span)⟩, trivial⟩
  with_unfolding_all refine TY_buildSlice rfl rfl rfl rfl rfl h3 rfl (by decide) (by with_unfolding_all exact Nat.le_of_ble_eq_true rfl) ?_
  have h4 : RS e_match_way (.sl [.agg [.nils, .nils, .int .i64 (0)]] .full) ([(F.match_way.mk (F.match_Match.mk [] []) 0)] : (List match_way)) := RS.of h3
  with_unfolding_all refine TX_assign rfl ?_
  with_unfolding_all refine TX_nil ?_
  with_unfolding_all refine thenQ_normal ?_
  with_unfolding_all refine TE_seq ?_
  with_unfolding_all refine TE_seq ?_
  with_unfolding_all refine TE_seqY ?_
  have hM5 := MB_none σ
  with_unfolding_all refine TX_move rfl ?_
  with_unfolding_all refine TX_move rfl ?_
  with_unfolding_all refine TX_nil ?_
  with_unfolding_all refine thenQ_normal ?_
  with_unfolding_all refine TE_block ?_
  obtain ⟨a18, h19, hF⟩ := bind_s hF
  refine TE_iter (f := F.match_some_s1 x0_ x1_) (s0 := (([(F.match_way.mk (F.match_Match.mk [] []) 0)] : (List match_way)), 0)) (a := a18) (fun (q6 : ((List match_way) × Int)) z => ∃ (u8 : AV) (s10 : Mem), RS e_match_way u8 q6.1 ∧ Own σ [] s10 [.buf u8] ∧ Le z ⟨fr 75 [(0, v0_), (1, .int .i64 (x1_)), (6, u8), (17, .int .i64 (x1_)), (18, .int .i64 (q6.2))], [], s10⟩) (fun (a : ((List match_way) ⊕ ((List match_Match) × Int))) e z => (∃ p12 : (List match_way), a = (.inl p12) ∧ e = .exit 0 ∧ ∃ (u13 : AV) (s15 : Mem), RS e_match_way u13 p12 ∧ Own σ [] s15 [.buf u13] ∧ Le z ⟨fr 75 [(6, u13)], [], s15⟩) ∨ (∃ p17 : ((List match_Match) × Int), a = (.inr (p17)) ∧ e = .ret ∧ doneQ Try.prog Try.f72 (fun v σ' => (R2 (RS e_match_Match) (eI .i64).rel) v p17 ∧ Ext σ σ') .ret z)) h19 ?_ ?_ ?_
  · skip
    have hO20 : Own σ [] σ [.buf (.sl [.agg [.nils, .nils, .int .i64 (0)]] .full)] := hO0.bufFull [.agg [.nils, .nils, .int .i64 (0)]]
    exact ⟨(.sl [.agg [.nils, .nils, .int .i64 (0)]] .full), σ, h4, (hO20.sub 1 rfl), (Le_fr ⟨rfl, ⟨rfl, ⟨rfl, ⟨rfl, ⟨rfl, trivial⟩⟩⟩⟩⟩)⟩
  · skip
    clear hF
    rintro q6 zq6 r7 ⟨u8, s10, h9, hO11, hz21⟩ hF
    unfold F.match_some_s1 at hF
    refine TE_pre hz21 ?_
    with_unfolding_all refine TE_seq ?_
    with_unfolding_all refine TE_seqY ?_
    have hM22 := MB_none s10
    with_unfolding_all refine TX_cmp rfl rfl rfl ?_
    with_unfolding_all refine TX_nil ?_
    with_unfolding_all refine thenQ_normal ?_
    with_unfolding_all refine TE_seq ?_
    with_unfolding_all refine TE_cond rfl (fun hc23 => ?_) (fun hc23 => ?_)
    · skip
      replace hF := ite_t hc23 hF
      with_unfolding_all refine TE_skip ?_
      with_unfolding_all refine thenQ_normal ?_
      with_unfolding_all refine TE_seq ?_
      with_unfolding_all refine TE_block ?_
      with_unfolding_all refine TE_seq ?_
      with_unfolding_all refine TE_seqY ?_
      have hM24 := MB_none s10
      with_unfolding_all refine TX_move rfl ?_
      with_unfolding_all refine TX_assign rfl ?_
      with_unfolding_all refine TX_nil ?_
      with_unfolding_all refine thenQ_normal ?_
      with_unfolding_all refine TE_seq ?_
      with_unfolding_all refine TE_seqY ?_
      have hM25 := MB_none s10
      with_unfolding_all refine TX_assign rfl ?_
      with_unfolding_all refine TX_nil ?_
      with_unfolding_all refine thenQ_normal ?_
      with_unfolding_all refine TE_seq ?_
      with_unfolding_all refine TE_seq ?_
      with_unfolding_all refine TE_seqY ?_
      have hM26 := MB_none s10
      with_unfolding_all refine TX_move rfl ?_
      with_unfolding_all refine TY_len rfl rfl rfl rfl h9 rfl ?_
      with_unfolding_all refine TX_move rfl ?_
      with_unfolding_all refine TX_nil ?_
      with_unfolding_all refine thenQ_normal ?_
      with_unfolding_all refine TE_block ?_
      obtain ⟨a39, h40, hF⟩ := bind_s hF
      refine TE_iter (f := F.match_some_s2 x0_ x1_ q6) (s0 := ([], 0)) (a := a39) (fun (q27 : ((List match_way) × Int)) z => ∃ (u29 : AV) (s31 : Mem), RS e_match_way u29 q27.1 ∧ Own σ [] s31 [.buf u29, .buf u8] ∧ Le z ⟨fr 75 [(0, v0_), (1, .int .i64 (x1_)), (7, .int .i64 (q6.2)), (8, u29), (17, .int .i64 (x1_)), (18, .int .i64 (q6.2)), (21, u8), (22, .int .i64 ((q6.1.length : Int))), (23, .int .i64 (q27.2))], [], s31⟩) (fun (a : ((List match_way) ⊕ ((List match_Match) × Int))) e z => (∃ p33 : (List match_way), a = (.inl p33) ∧ e = .exit 2 ∧ ∃ (u34 : AV) (s36 : Mem), RS e_match_way u34 p33 ∧ Own σ [] s36 [.buf u34, .buf u8] ∧ Le z ⟨fr 75 [(0, v0_), (1, .int .i64 (x1_)), (8, u34), (17, .int .i64 (x1_)), (18, .int .i64 (q6.2))], [], s36⟩) ∨ (∃ p38 : ((List match_Match) × Int), a = (.inr (p38)) ∧ e = .ret ∧ doneQ Try.prog Try.f72 (fun v σ' => (R2 (RS e_match_Match) (eI .i64).rel) v p38 ∧ Ext σ σ') .ret z)) h40 ?_ ?_ ?_
      · skip
        have hO41 : Own σ [] s10 [.buf .nils, .buf u8] := hO11.buf0
        have hO42 : Own σ [] s10 [.buf u8, .buf .nils] := hO41.front 1 rfl rfl
        have hO43 : Own σ [] s10 [.buf .nils, .buf u8] := hO42.front 1 rfl rfl
        exact ⟨.nils, s10, (RS.nil e_match_way), (hO43.sub 2 rfl), (Le_fr ⟨rfl, ⟨rfl, ⟨rfl, ⟨rfl, ⟨rfl, ⟨rfl, ⟨rfl, ⟨rfl, ⟨rfl, trivial⟩⟩⟩⟩⟩⟩⟩⟩⟩)⟩
      · skip
        clear hF
        rintro q27 zq27 r28 ⟨u29, s31, h30, hO32, hz44⟩ hF
        unfold F.match_some_s2 at hF
        refine TE_pre hz44 ?_
        with_unfolding_all refine TE_seq ?_
        with_unfolding_all refine TE_seqY ?_
        have hM45 := MB_none s31
        with_unfolding_all refine TX_cmp rfl rfl rfl ?_
        with_unfolding_all refine TX_nil ?_
        with_unfolding_all refine thenQ_normal ?_
        with_unfolding_all refine TE_seq ?_
        with_unfolding_all refine TE_cond rfl (fun hc46 => ?_) (fun hc46 => ?_)
        · skip
          replace hF := ite_t hc46 hF
          with_unfolding_all refine TE_skip ?_
          with_unfolding_all refine thenQ_normal ?_
          with_unfolding_all refine TE_seq ?_
          with_unfolding_all refine TE_block ?_
          with_unfolding_all refine TE_seq ?_
          obtain ⟨x47, h48, hF⟩ := bind_s hF
          with_unfolding_all refine TE_seqY ?_
          have hM53 := MB_none s31
          with_unfolding_all refine TY_idx (E := e_match_way) rfl rfl rfl h9 rfl h48 ?_
          intro u54 h55
          obtain ⟨u56, u58, rfl, h57, h59⟩ := h55
          with_unfolding_all refine TX_load_c rfl rfl ?_
          with_unfolding_all refine TY_alloc hO32 hM53 rfl rfl ?_
          rintro id60 s61 (hO62 : Own σ [] s61 [.obj id60 [.nils, .nils, .int .i64 (0)], .buf u29, .buf u8]) hM63
          with_unfolding_all refine TY_store (v := .agg [u56, u58, .int .i64 (x47.next_)]) (vc := [u56, u58, .int .i64 (x47.next_)]) hO62 hM63 (MNe.none _) rfl rfl rfl rfl (by with_unfolding_all exact Nat.le_of_ble_eq_true rfl) (ones_cons (RS.one1 h57) (ones_cons (RS.one1 h59) (ones_cons rfl ones_nil))) rfl ?_
          rintro s64 (hO65 : Own σ [] s64 [.obj id60 [u56, u58, .int .i64 (x47.next_)], .buf u29, .buf u8]) hM66
          with_unfolding_all refine TX_nil ?_
          with_unfolding_all refine thenQ_normal ?_
          with_unfolding_all refine TE_seq ?_
          with_unfolding_all refine TE_seqY ?_
          have hM67 := MB_none s64
          with_unfolding_all refine TX_fieldAddr_p rfl rfl rfl ?_
          with_unfolding_all refine TX_load_p rfl (MC_none (hO65.obj 0 rfl)) rfl ?_
          with_unfolding_all refine TX_assign rfl ?_
          with_unfolding_all refine TX_nil ?_
          with_unfolding_all refine thenQ_normal ?_
          with_unfolding_all refine TE_block ?_
          obtain ⟨a80, h81, hF⟩ := bind_s hF
          refine TE_iter (f := F.match_some_s3 x0_ x1_ q6 x47) (s0 := (q27.1, x47.next_)) (a := a80) (fun (q68 : ((List match_way) × Int)) z => ∃ (u70 : AV) (s72 : Mem), RS e_match_way u70 q68.1 ∧ Own σ [] s72 [.buf u70, .obj id60 [u56, u58, .int .i64 (x47.next_)], .buf u8] ∧ Le z ⟨fr 75 [(0, v0_), (1, .int .i64 (x1_)), (7, .int .i64 (q6.2)), (8, u70), (10, .ptr id60 0), (11, .int .i64 (q68.2)), (17, .int .i64 (x1_)), (18, .int .i64 (q6.2)), (21, u8), (22, .int .i64 ((q6.1.length : Int))), (23, .int .i64 (q27.2))], [], s72⟩) (fun (a : ((List match_way) ⊕ ((List match_Match) × Int))) e z => (∃ p74 : (List match_way), a = (.inl p74) ∧ e = .exit 4 ∧ ∃ (u75 : AV) (s77 : Mem), RS e_match_way u75 p74 ∧ Own σ [] s77 [.buf u75, .obj id60 [u56, u58, .int .i64 (x47.next_)], .buf u8] ∧ Le z ⟨fr 75 [(0, v0_), (1, .int .i64 (x1_)), (7, .int .i64 (q6.2)), (8, u75), (17, .int .i64 (x1_)), (18, .int .i64 (q6.2)), (21, u8), (22, .int .i64 ((q6.1.length : Int))), (23, .int .i64 (q27.2))], [], s77⟩) ∨ (∃ p79 : ((List match_Match) × Int), a = (.inr (p79)) ∧ e = .ret ∧ doneQ Try.prog Try.f72 (fun v σ' => (R2 (RS e_match_Match) (eI .i64).rel) v p79 ∧ Ext σ σ') .ret z)) h81 ?_ ?_ ?_
          · skip
            have hO82 : Own σ [] s64 [.buf u8, .obj id60 [u56, u58, .int .i64 (x47.next_)], .buf u29] := hO65.front 2 rfl rfl
            have hO83 : Own σ [] s64 [.obj id60 [u56, u58, .int .i64 (x47.next_)], .buf u8, .buf u29] := hO82.front 1 rfl rfl
            have hO84 : Own σ [] s64 [.buf u29, .obj id60 [u56, u58, .int .i64 (x47.next_)], .buf u8] := hO83.front 2 rfl rfl
            exact ⟨u29, s64, h30, (hO84.sub 3 rfl), (Le_fr ⟨rfl, ⟨rfl, ⟨rfl, ⟨rfl, ⟨rfl, ⟨rfl, ⟨rfl, ⟨rfl, ⟨rfl, ⟨rfl, ⟨rfl, trivial⟩⟩⟩⟩⟩⟩⟩⟩⟩⟩⟩)⟩
          · skip
            clear hF
            rintro q68 zq68 r69 ⟨u70, s72, h71, hO73, hz85⟩ hF
            unfold F.match_some_s3 at hF
            refine TE_pre hz85 ?_
            with_unfolding_all refine TE_seq ?_
            with_unfolding_all refine TE_seq ?_
            with_unfolding_all refine TE_seqY ?_
            have hM86 := MB_none s72
            with_unfolding_all refine TX_move rfl ?_
            with_unfolding_all refine TX_move rfl ?_
            with_unfolding_all refine TY_len rfl rfl rfl rfl h0_ rfl ?_
            with_unfolding_all refine TX_move rfl ?_
            with_unfolding_all refine TX_move rfl ?_
            with_unfolding_all refine TX_ari rfl rfl rfl ?_
            with_unfolding_all refine TX_ari rfl rfl rfl ?_
            with_unfolding_all refine TX_ari rfl rfl rfl ?_
            with_unfolding_all refine TX_cmp rfl rfl rfl ?_
            with_unfolding_all refine TX_nil ?_
            with_unfolding_all refine thenQ_normal ?_
            with_unfolding_all refine TE_cond rfl (fun hc87 => ?_) (fun hc87 => ?_)
            · skip
              replace hF := ite_t hc87 hF
              with_unfolding_all refine TE_skip ?_
              with_unfolding_all refine thenQ_normal ?_
              with_unfolding_all refine TE_seq ?_
              with_unfolding_all refine TE_block ?_
              with_unfolding_all refine TE_seq ?_
              obtain ⟨x88, h89, hF⟩ := bind_s hF
              obtain ⟨x94, h95, hF⟩ := bind_s hF
              obtain ⟨x96, h97, hF⟩ := bind_s hF
              have hB98 : Bs [(id60, [u56, u58, .int .i64 (x47.next_)])] s72 := Bs.cons (hO73.obj 1 rfl) (Bs.nil _)
              with_unfolding_all refine TE_drawY [(id60, [u56, u58, .int .i64 (x47.next_)])] (by with_unfolding_all rfl) (by kernel_rfl) hB98 ?_
              have hM99 := MB_some hB98
              with_unfolding_all refine TX_move rfl ?_
              with_unfolding_all refine TX_fieldAddr_p rfl rfl rfl ?_
              with_unfolding_all refine TX_load_p rfl (MC_some 0 rfl) rfl ?_
              with_unfolding_all refine TX_move rfl ?_
              with_unfolding_all refine TX_move rfl ?_
              with_unfolding_all refine TY_idx (E := e_match_Match) rfl rfl rfl h0_ rfl h89 ?_
              intro u100 h101
              obtain ⟨u102, u104, rfl, h103, h105⟩ := h101
              with_unfolding_all refine TX_load_c rfl rfl ?_
              have hc106 : CallE Try.prog 64 [.agg [u56, u58], .agg [u102, u104]] s72 _ := match_join_ok h95 ⟨u56, u58, rfl, h57, h59⟩ ⟨u102, u104, rfl, h103, h105⟩
              with_unfolding_all refine TY_call hM99 rfl en64 hc106 ?_
              intro v107 s111 hv108 hX109 hM110
              have hO112 := hO73.ext_call hX109
              obtain ⟨u113, u115, rfl, h114, h116⟩ := hv108
              with_unfolding_all refine TX_move rfl ?_
              with_unfolding_all refine TX_ari rfl rfl rfl ?_
              with_unfolding_all refine TY_build [u113, u115, .int .i64 ((IntKind.wrap .i64 (q68.2 + 1)))] rfl rfl rfl (by with_unfolding_all exact Fill.cons rfl rfl rfl (by with_unfolding_all exact Nat.le_of_ble_eq_true rfl) (Fill.cons rfl rfl rfl (by with_unfolding_all exact Nat.le_of_ble_eq_true rfl) (Fill.nil _))) (by with_unfolding_all rfl) ?_
              have h117 : All2 e_match_way.rel ([.agg [u113, u115, .int .i64 ((IntKind.wrap .i64 (q68.2 + 1)))]] : List AV) ([(F.match_way.mk x94 (IntKind.wrap .i64 (q68.2 + 1)))] : (List match_way)) := ⟨⟨u113, u115, rfl, h114, h116⟩, trivial⟩
              with_unfolding_all refine TY_buildSlice rfl rfl rfl rfl rfl h117 rfl (by decide) (by with_unfolding_all exact Nat.le_of_ble_eq_true rfl) ?_
              have h118 : RS e_match_way (.sl [.agg [u113, u115, .int .i64 ((IntKind.wrap .i64 (q68.2 + 1)))]] .full) ([(F.match_way.mk x94 (IntKind.wrap .i64 (q68.2 + 1)))] : (List match_way)) := RS.of h117
              with_unfolding_all refine TY_append appT97_97 hO112 hM110 rfl rfl rfl rfl h71 rfl h118 h97 ?_
              rintro u119 s121 (h120 : RS e_match_way u119 x96) (hO122 : Own σ [] s121 [.buf u119, .obj id60 [u56, u58, .int .i64 (x47.next_)], .buf u8]) hM123
              with_unfolding_all refine TX_assign rfl ?_
              with_unfolding_all refine TX_nil ?_
              with_unfolding_all refine thenQ_normal ?_
              with_unfolding_all refine TE_seq ?_
              with_unfolding_all refine TE_seqY ?_
              have hM124 := MB_none s121
              with_unfolding_all refine TX_move rfl ?_
              with_unfolding_all refine TY_len rfl rfl rfl rfl h120 rfl ?_
              with_unfolding_all refine TX_cmp rfl rfl rfl ?_
              with_unfolding_all refine TX_nil ?_
              with_unfolding_all refine thenQ_normal ?_
              with_unfolding_all refine TE_cond rfl (fun hc125 => ?_) (fun hc125 => ?_)
              · skip
                replace hF := ite_t hc125 hF
                with_unfolding_all refine TE_seq ?_
                with_unfolding_all refine TE_seqY ?_
                have hM126 := MB_none s121
                with_unfolding_all refine TX_assign rfl ?_
                with_unfolding_all refine TX_assign rfl ?_
                with_unfolding_all refine TX_nil ?_
                with_unfolding_all refine thenQ_normal ?_
                with_unfolding_all refine TE_ret ?_
                with_unfolding_all refine blockQ_ret ?_
                with_unfolding_all refine thenQ_ret ?_
                obtain rfl := some_s hF
                exact iterQ_ret (.inr <| ⟨_, rfl, rfl, (done_any (vs := [.nils, .int .i64 (23)]) (.inr rfl) rfl (resR_tmp rfl (resR_tmp rfl resR_nil)) ⟨⟨_, _, rfl, (RS.nil e_match_Match), rfl⟩, hO122.ext⟩)⟩)
              · skip
                replace hF := ite_f hc125 hF
                with_unfolding_all refine TE_skip ?_
                with_unfolding_all refine blockQ_normal ?_
                with_unfolding_all refine thenQ_normal ?_
                with_unfolding_all refine TE_seqY ?_
                have hM127 := MB_none s121
                with_unfolding_all refine TX_move rfl ?_
                with_unfolding_all refine TX_ari rfl rfl rfl ?_
                with_unfolding_all refine TX_assign rfl ?_
                with_unfolding_all refine TX_nil ?_
                obtain rfl := some_s hF
                have hO128 : Own σ [] s121 [.buf u8, .buf u119, .obj id60 [u56, u58, .int .i64 (x47.next_)]] := hO122.front 2 rfl rfl
                have hO129 : Own σ [] s121 [.obj id60 [u56, u58, .int .i64 (x47.next_)], .buf u8, .buf u119] := hO128.front 2 rfl rfl
                have hO130 : Own σ [] s121 [.buf u119, .obj id60 [u56, u58, .int .i64 (x47.next_)], .buf u8] := hO129.front 2 rfl rfl
                exact iterQ_again ⟨u119, s121, h120, (hO130.sub 3 rfl), (Le_fr ⟨rfl, ⟨rfl, ⟨rfl, ⟨rfl, ⟨rfl, ⟨rfl, ⟨rfl, ⟨rfl, ⟨rfl, ⟨rfl, ⟨rfl, trivial⟩⟩⟩⟩⟩⟩⟩⟩⟩⟩⟩)⟩
            · skip
              replace hF := ite_f hc87 hF
              with_unfolding_all refine TE_exit ?_
              with_unfolding_all refine thenQ_exit ?_
              obtain rfl := some_s hF
              have hO131 : Own σ [] s72 [.buf u8, .buf u70, .obj id60 [u56, u58, .int .i64 (x47.next_)]] := hO73.front 2 rfl rfl
              have hO132 : Own σ [] s72 [.obj id60 [u56, u58, .int .i64 (x47.next_)], .buf u8, .buf u70] := hO131.front 2 rfl rfl
              have hO133 : Own σ [] s72 [.buf u70, .obj id60 [u56, u58, .int .i64 (x47.next_)], .buf u8] := hO132.front 2 rfl rfl
              exact iterQ_exit (.inl <| ⟨_, rfl, rfl, u70, s72, h71, (hO133.sub 3 rfl), (Le_fr ⟨rfl, ⟨rfl, ⟨rfl, ⟨rfl, ⟨rfl, ⟨rfl, ⟨rfl, ⟨rfl, ⟨rfl, trivial⟩⟩⟩⟩⟩⟩⟩⟩⟩)⟩)
          · skip
            rintro eq68 zq68 (⟨p74, rfl, rfl, u75, s77, h76, hO78, hz134⟩ | ⟨p79, rfl, rfl, hdp79⟩)
            · skip
              try dsimp only at hF
              with_unfolding_all refine blockQ_out ?_
              with_unfolding_all refine blockQ_normal ?_
              with_unfolding_all refine thenQ_normal ?_
              refine TE_pre hz134 ?_
              with_unfolding_all refine TE_seqY ?_
              have hM135 := MB_none s77
              with_unfolding_all refine TX_ari rfl rfl rfl ?_
              with_unfolding_all refine TX_move rfl ?_
              with_unfolding_all refine TX_nil ?_
              obtain rfl := some_s hF
              have hO136 : Own σ [] s77 [.buf u8, .buf u75, .obj id60 [u56, u58, .int .i64 (x47.next_)]] := hO78.front 2 rfl rfl
              have hO137 : Own σ [] s77 [.buf u75, .buf u8, .obj id60 [u56, u58, .int .i64 (x47.next_)]] := hO136.front 1 rfl rfl
              exact iterQ_again ⟨u75, s77, h76, (hO137.sub 2 rfl), (Le_fr ⟨rfl, ⟨rfl, ⟨rfl, ⟨rfl, ⟨rfl, ⟨rfl, ⟨rfl, ⟨rfl, ⟨rfl, trivial⟩⟩⟩⟩⟩⟩⟩⟩⟩)⟩
            · skip
              try dsimp only at hF
              with_unfolding_all refine blockQ_ret ?_
              with_unfolding_all refine blockQ_ret ?_
              with_unfolding_all refine thenQ_ret ?_
              obtain rfl := some_s hF
              exact iterQ_ret (.inr <| ⟨_, rfl, rfl, hdp79⟩)
        · skip
          replace hF := ite_f hc46 hF
          with_unfolding_all refine TE_exit ?_
          with_unfolding_all refine thenQ_exit ?_
          obtain rfl := some_s hF
          have hO138 : Own σ [] s31 [.buf u8, .buf u29] := hO32.front 1 rfl rfl
          have hO139 : Own σ [] s31 [.buf u29, .buf u8] := hO138.front 1 rfl rfl
          exact iterQ_exit (.inl <| ⟨_, rfl, rfl, u29, s31, h30, (hO139.sub 2 rfl), (Le_fr ⟨rfl, ⟨rfl, ⟨rfl, ⟨rfl, ⟨rfl, trivial⟩⟩⟩⟩⟩)⟩)
      · skip
        rintro eq27 zq27 (⟨p33, rfl, rfl, u34, s36, h35, hO37, hz140⟩ | ⟨p38, rfl, rfl, hdp38⟩)
        · skip
          try dsimp only at hF
          with_unfolding_all refine blockQ_out ?_
          with_unfolding_all refine thenQ_normal ?_
          refine TE_pre hz140 ?_
          with_unfolding_all refine TE_seq ?_
          with_unfolding_all refine TE_seqY ?_
          have hM141 := MB_none s36
          with_unfolding_all refine TX_move rfl ?_
          with_unfolding_all refine TX_assign rfl ?_
          with_unfolding_all refine TX_nil ?_
          with_unfolding_all refine thenQ_normal ?_
          with_unfolding_all refine TE_seq ?_
          with_unfolding_all refine TE_seqY ?_
          have hM142 := MB_none s36
          with_unfolding_all refine TX_move rfl ?_
          with_unfolding_all refine TY_len rfl rfl rfl rfl h35 rfl ?_
          with_unfolding_all refine TX_cmp rfl rfl rfl ?_
          with_unfolding_all refine TX_nil ?_
          with_unfolding_all refine thenQ_normal ?_
          with_unfolding_all refine TE_cond rfl (fun hc143 => ?_) (fun hc143 => ?_)
          · skip
            replace hF := ite_t hc143 hF
            with_unfolding_all refine TE_seq ?_
            with_unfolding_all refine TE_seqY ?_
            have hM144 := MB_none s36
            with_unfolding_all refine TX_assign rfl ?_
            with_unfolding_all refine TX_assign rfl ?_
            with_unfolding_all refine TX_nil ?_
            with_unfolding_all refine thenQ_normal ?_
            with_unfolding_all refine TE_ret ?_
            with_unfolding_all refine blockQ_ret ?_
            with_unfolding_all refine thenQ_ret ?_
            obtain rfl := some_s hF
            exact iterQ_ret (.inr <| ⟨_, rfl, rfl, (done_any (vs := [.nils, .int .i64 (0)]) (.inr rfl) rfl (resR_tmp rfl (resR_tmp rfl resR_nil)) ⟨⟨_, _, rfl, (RS.nil e_match_Match), rfl⟩, hO37.ext⟩)⟩)
          · skip
            replace hF := ite_f hc143 hF
            with_unfolding_all refine TE_skip ?_
            with_unfolding_all refine blockQ_normal ?_
            with_unfolding_all refine thenQ_normal ?_
            with_unfolding_all refine TE_seqY ?_
            have hM145 := MB_none s36
            with_unfolding_all refine TX_ari rfl rfl rfl ?_
            with_unfolding_all refine TX_move rfl ?_
            with_unfolding_all refine TX_nil ?_
            obtain rfl := some_s hF
            exact iterQ_again ⟨u34, s36, h35, (hO37.sub 1 rfl), (Le_fr ⟨rfl, ⟨rfl, ⟨rfl, ⟨rfl, ⟨rfl, trivial⟩⟩⟩⟩⟩)⟩
        · skip
          try dsimp only at hF
          with_unfolding_all refine blockQ_ret ?_
          with_unfolding_all refine thenQ_ret ?_
          with_unfolding_all refine blockQ_ret ?_
          with_unfolding_all refine thenQ_ret ?_
          obtain rfl := some_s hF
          exact iterQ_ret (.inr <| ⟨_, rfl, rfl, hdp38⟩)
    · skip
      replace hF := ite_f hc23 hF
      with_unfolding_all refine TE_exit ?_
      with_unfolding_all refine thenQ_exit ?_
      obtain rfl := some_s hF
      exact iterQ_exit (.inl <| ⟨_, rfl, rfl, u8, s10, h9, (hO11.sub 1 rfl), (Le_fr ⟨rfl, trivial⟩)⟩)
  · skip
    rintro eq6 zq6 (⟨p12, rfl, rfl, u13, s15, h14, hO16, hz146⟩ | ⟨p17, rfl, rfl, hdp17⟩)
    · skip
      try dsimp only at hF
      with_unfolding_all refine blockQ_out ?_
      with_unfolding_all refine thenQ_normal ?_
      refine TE_pre hz146 ?_
      with_unfolding_all refine TE_seq ?_
      with_unfolding_all refine TE_seqY ?_
      have hM147 := MB_none s15
      with_unfolding_all refine TX_assign rfl ?_
      with_unfolding_all refine TX_nil ?_
      with_unfolding_all refine thenQ_normal ?_
      with_unfolding_all refine TE_seq ?_
      with_unfolding_all refine TE_seq ?_
      with_unfolding_all refine TE_seqY ?_
      have hM148 := MB_none s15
      with_unfolding_all refine TX_move rfl ?_
      with_unfolding_all refine TY_len rfl rfl rfl rfl h14 rfl ?_
      with_unfolding_all refine TX_move rfl ?_
      with_unfolding_all refine TX_nil ?_
      with_unfolding_all refine thenQ_normal ?_
      with_unfolding_all refine TE_block ?_
      obtain ⟨p155, h161, hF⟩ := bind_s hF
      refine TE_iter (f := F.match_some_s4 p12) (s0 := ([], 0)) (a := p155) (fun (q149 : ((List match_Match) × Int)) z => ∃ (u151 : AV) (s153 : Mem), RS e_match_Match u151 q149.1 ∧ Own σ [] s153 [.buf u151, .buf u13] ∧ Le z ⟨fr 75 [(12, u151), (62, u13), (63, .int .i64 ((p12.length : Int))), (64, .int .i64 (q149.2))], [], s153⟩) (fun (p155 : (List match_Match)) e z => (e = .exit 6 ∧ ∃ (u156 : AV) (s158 : Mem), RS e_match_Match u156 p155 ∧ Own σ [] s158 [.buf u156, .buf u13] ∧ Le z ⟨fr 75 [(12, u156)], [], s158⟩)) h161 ?_ ?_ ?_
      · skip
        have hO162 : Own σ [] s15 [.buf .nils, .buf u13] := hO16.buf0
        have hO163 : Own σ [] s15 [.buf u13, .buf .nils] := hO162.front 1 rfl rfl
        have hO164 : Own σ [] s15 [.buf .nils, .buf u13] := hO163.front 1 rfl rfl
        exact ⟨.nils, s15, (RS.nil e_match_Match), (hO164.sub 2 rfl), (Le_fr ⟨rfl, ⟨rfl, ⟨rfl, ⟨rfl, trivial⟩⟩⟩⟩)⟩
      · skip
        clear hF
        rintro q149 zq149 r150 ⟨u151, s153, h152, hO154, hz165⟩ hF
        unfold F.match_some_s4 at hF
        refine TE_pre hz165 ?_
        with_unfolding_all refine TE_seq ?_
        with_unfolding_all refine TE_seqY ?_
        have hM166 := MB_none s153
        with_unfolding_all refine TX_cmp rfl rfl rfl ?_
        with_unfolding_all refine TX_nil ?_
        with_unfolding_all refine thenQ_normal ?_
        with_unfolding_all refine TE_seq ?_
        with_unfolding_all refine TE_cond rfl (fun hc167 => ?_) (fun hc167 => ?_)
        · skip
          replace hF := ite_t hc167 hF
          with_unfolding_all refine TE_skip ?_
          with_unfolding_all refine thenQ_normal ?_
          with_unfolding_all refine TE_seq ?_
          with_unfolding_all refine TE_block ?_
          with_unfolding_all refine TE_seq ?_
          obtain ⟨x168, h169, hF⟩ := bind_s hF
          with_unfolding_all refine TE_seqY ?_
          have hM174 := MB_none s153
          with_unfolding_all refine TY_idx (E := e_match_way) rfl rfl rfl h14 rfl h169 ?_
          intro u175 h176
          obtain ⟨u177, u179, rfl, h178, h180⟩ := h176
          with_unfolding_all refine TX_load_c rfl rfl ?_
          with_unfolding_all refine TY_alloc hO154 hM174 rfl rfl ?_
          rintro id181 s182 (hO183 : Own σ [] s182 [.obj id181 [.nils, .nils, .int .i64 (0)], .buf u151, .buf u13]) hM184
          with_unfolding_all refine TY_store (v := .agg [u177, u179, .int .i64 (x168.next_)]) (vc := [u177, u179, .int .i64 (x168.next_)]) hO183 hM184 (MNe.none _) rfl rfl rfl rfl (by with_unfolding_all exact Nat.le_of_ble_eq_true rfl) (ones_cons (RS.one1 h178) (ones_cons (RS.one1 h180) (ones_cons rfl ones_nil))) rfl ?_
          rintro s185 (hO186 : Own σ [] s185 [.obj id181 [u177, u179, .int .i64 (x168.next_)], .buf u151, .buf u13]) hM187
          with_unfolding_all refine TX_nil ?_
          with_unfolding_all refine thenQ_normal ?_
          obtain ⟨x188, h189, hF⟩ := bind_s hF
          with_unfolding_all refine TE_seqY ?_
          have hM190 := MB_none s185
          with_unfolding_all refine TX_move rfl ?_
          with_unfolding_all refine TX_fieldAddr_p rfl rfl rfl ?_
          with_unfolding_all refine TX_load_p rfl (MC_none (hO186.obj 0 rfl)) rfl ?_
          have h191 : All2 e_match_Match.rel ([.agg [u177, u179]] : List AV) ([x168.m_] : (List match_Match)) := ⟨⟨u177, u179, rfl, h178, h180⟩, trivial⟩
          with_unfolding_all refine TY_buildSlice rfl rfl rfl rfl rfl h191 rfl (by decide) (by with_unfolding_all exact Nat.le_of_ble_eq_true rfl) ?_
          have h192 : RS e_match_Match (.sl [.agg [u177, u179]] .full) ([x168.m_] : (List match_Match)) := RS.of h191
          have hO193 : Own σ [] s185 [.buf u151, .obj id181 [u177, u179, .int .i64 (x168.next_)], .buf u13] := hO186.front 1 rfl rfl
          with_unfolding_all refine TY_append appT22_22 hO193 hM190 rfl rfl rfl rfl h152 rfl h192 h189 ?_
          rintro u194 s196 (h195 : RS e_match_Match u194 x188) (hO197 : Own σ [] s196 [.buf u194, .obj id181 [u177, u179, .int .i64 (x168.next_)], .buf u13]) hM198
          with_unfolding_all refine TX_assign rfl ?_
          with_unfolding_all refine TX_nil ?_
          with_unfolding_all refine blockQ_normal ?_
          with_unfolding_all refine thenQ_normal ?_
          with_unfolding_all refine TE_seqY ?_
          have hM199 := MB_none s196
          with_unfolding_all refine TX_ari rfl rfl rfl ?_
          with_unfolding_all refine TX_move rfl ?_
          with_unfolding_all refine TX_nil ?_
          obtain rfl := some_s hF
          have hO200 : Own σ [] s196 [.buf u13, .buf u194, .obj id181 [u177, u179, .int .i64 (x168.next_)]] := hO197.front 2 rfl rfl
          have hO201 : Own σ [] s196 [.buf u194, .buf u13, .obj id181 [u177, u179, .int .i64 (x168.next_)]] := hO200.front 1 rfl rfl
          exact iterQ_again ⟨u194, s196, h195, (hO201.sub 2 rfl), (Le_fr ⟨rfl, ⟨rfl, ⟨rfl, ⟨rfl, trivial⟩⟩⟩⟩)⟩
        · skip
          replace hF := ite_f hc167 hF
          with_unfolding_all refine TE_exit ?_
          with_unfolding_all refine thenQ_exit ?_
          obtain rfl := some_s hF
          have hO202 : Own σ [] s153 [.buf u13, .buf u151] := hO154.front 1 rfl rfl
          have hO203 : Own σ [] s153 [.buf u151, .buf u13] := hO202.front 1 rfl rfl
          exact iterQ_exit (⟨rfl, u151, s153, h152, (hO203.sub 2 rfl), (Le_fr ⟨rfl, trivial⟩)⟩)
      · skip
        rintro eq149 zq149 (⟨rfl, u156, s158, h157, hO159, hz204⟩)
        with_unfolding_all refine blockQ_out ?_
        with_unfolding_all refine thenQ_normal ?_
        refine TE_pre hz204 ?_
        with_unfolding_all refine TE_seq ?_
        with_unfolding_all refine TE_seqY ?_
        have hM205 := MB_none s158
        with_unfolding_all refine TX_move rfl ?_
        with_unfolding_all refine TX_assign rfl ?_
        with_unfolding_all refine TX_assign rfl ?_
        with_unfolding_all refine TX_nil ?_
        with_unfolding_all refine thenQ_normal ?_
        with_unfolding_all refine TE_ret ?_
        obtain rfl := some_s hF
        exact done_any (vs := [u156, .int .i64 (0)]) (.inr rfl) rfl (resR_tmp rfl (resR_tmp rfl resR_nil)) ⟨⟨_, _, rfl, h157, rfl⟩, hO159.ext⟩
    · skip
      try dsimp only at hF
      with_unfolding_all refine blockQ_ret ?_
      with_unfolding_all refine thenQ_ret ?_
      obtain rfl := some_s hF
      exact hdp17
theorem match_Times_ok {x0_ : (List match_Match)} {x1_ : api_Range} {y : ((List match_Match) × Int)} (hF : F.match_Times x0_ x1_ = some y) {v0_ : AV} {v1_ : AV} {σ : Mem} (h0_ : (RS e_match_Match) v0_ x0_) (h1_ : e_api_Range.rel v1_ x1_)  :
    CallE Try.prog 32 [v0_, v1_] σ (fun v σ' => (R2 (RS e_match_Match) (eI .i64).rel) v y ∧ Ext σ σ') := by
  unfold F.match_Times at hF
  obtain rfl := h1_
  refine CallE_of Try.func32 rfl Try.ntmps32 (by simp) ?_
  have hO0 := Own.start σ
  with_unfolding_all refine TE_seq ?_
  with_unfolding_all refine TE_seqY ?_
  have hM1 := MB_none σ
  with_unfolding_all refine TY_box hO0 hM1 rfl rfl ?_
  rintro id2 s3 (hO4 : Own σ [] s3 [.obj id2 [.int .i64 (x1_.Lo), .int .i64 (x1_.Hi)]]) hM5
  with_unfolding_all refine TX_assign rfl ?_
  with_unfolding_all refine TX_assign rfl ?_
  with_unfolding_all refine TX_nil ?_
  with_unfolding_all refine thenQ_normal ?_
  with_unfolding_all refine TE_seq ?_
  obtain ⟨x6, h7, hF⟩ := bind_s hF
  with_unfolding_all refine TE_seqY ?_
  have hM8 := MB_none s3
  with_unfolding_all refine TX_move rfl ?_
  with_unfolding_all refine TX_fieldAddr_p rfl rfl rfl ?_
  with_unfolding_all refine TX_load_p rfl (MC_none (hO4.obj 0 rfl)) rfl ?_
  with_unfolding_all refine TX_max rfl rfl rfl rfl ?_
  have hc9 : CallE Try.prog 72 [v0_, .int .i64 ((max 0 x1_.Lo))] s3 _ := match_some_ok h7 h0_ rfl
  with_unfolding_all refine TY_call hM8 rfl en72 hc9 ?_
  intro v10 s14 hv11 hX12 hM13
  have hO15 := hO4.ext_call hX12
  obtain ⟨v16, v17, rfl, h18, h19⟩ := hv11
  obtain rfl := h19
  with_unfolding_all refine TX_move rfl ?_
  with_unfolding_all refine TX_extract rfl rfl ?_
  with_unfolding_all refine TX_extract rfl rfl ?_
  with_unfolding_all refine TX_assign rfl ?_
  with_unfolding_all refine TX_assign rfl ?_
  with_unfolding_all refine TX_nil ?_
  with_unfolding_all refine thenQ_normal ?_
  with_unfolding_all refine TE_seq ?_
  with_unfolding_all refine TE_seq ?_
  obtain ⟨r20, h21, hF⟩ := bind_s hF
  refine TE_cutQ (fun z => ∃ (s23 : Mem), Own σ [] s23 [.obj id2 [.int .i64 (x1_.Lo), .int .i64 (x1_.Hi)]] ∧ Le z ⟨fr 56 [(0, v0_), (3, .ptr id2 0), (6, v16), (7, .int .i64 (x6.2)), (26, .bool (r20))], [], s23⟩) ?_ ?_
  · skip
    with_unfolding_all refine TE_seqY ?_
    have hM26 := MB_none s14
    with_unfolding_all refine TX_move rfl ?_
    with_unfolding_all refine TX_cmp rfl rfl rfl ?_
    with_unfolding_all refine TX_move rfl ?_
    with_unfolding_all refine TX_guard_f rfl rfl (fun hc27 => ?_) (fun hc27 => ?_)
    · skip
      replace h21 := or_t hc27 h21
      obtain rfl := some_s h21
      with_unfolding_all refine TX_guard_no_f rfl rfl hc27 ?_
      with_unfolding_all refine TX_guard_no_f rfl rfl hc27 ?_
      with_unfolding_all refine TX_guard_no_f rfl rfl hc27 ?_
      with_unfolding_all refine TX_guard_no_f rfl rfl hc27 ?_
      with_unfolding_all refine TX_pick_t rfl hc27 rfl ?_
      with_unfolding_all refine TX_nil ?_
      exact joinQ_normal ⟨s14, (hO15.sub 1 rfl), (Le_fr ⟨rfl, ⟨rfl, ⟨rfl, ⟨rfl, ⟨rfl, trivial⟩⟩⟩⟩⟩)⟩
    · skip
      replace h21 := or_f hc27 h21
      with_unfolding_all refine TX_fieldAddr_p rfl rfl rfl ?_
      with_unfolding_all refine TX_guard_yes rfl rfl hc27 ?_
      with_unfolding_all refine TX_load_p rfl (MC_none (hO15.obj 0 rfl)) rfl ?_
      with_unfolding_all refine TX_guard_yes rfl rfl hc27 ?_
      with_unfolding_all refine TX_move rfl ?_
      with_unfolding_all refine TX_guard_yes rfl rfl hc27 ?_
      with_unfolding_all refine TY_len rfl rfl rfl rfl h0_ rfl ?_
      with_unfolding_all refine TX_guard_yes rfl rfl hc27 ?_
      with_unfolding_all refine TX_cmp rfl rfl rfl ?_
      with_unfolding_all refine TX_pick_f rfl hc27 rfl ?_
      obtain rfl := some_s h21
      with_unfolding_all refine TX_nil ?_
      exact joinQ_normal ⟨s14, (hO15.sub 1 rfl), (Le_fr ⟨rfl, ⟨rfl, ⟨rfl, ⟨rfl, ⟨rfl, trivial⟩⟩⟩⟩⟩)⟩
  · skip
    rintro zj22 ⟨s23, hO24, hz25⟩
    with_unfolding_all refine thenQ_normal ?_
    refine TE_pre hz25 ?_
    with_unfolding_all refine TE_cond rfl (fun hc28 => ?_) (fun hc28 => ?_)
    · skip
      replace hF := ite_t hc28 hF
      with_unfolding_all refine TE_seq ?_
      with_unfolding_all refine TE_seqY ?_
      have hM29 := MB_none s23
      with_unfolding_all refine TX_move rfl ?_
      with_unfolding_all refine TX_move rfl ?_
      with_unfolding_all refine TX_assign rfl ?_
      with_unfolding_all refine TX_assign rfl ?_
      with_unfolding_all refine TX_nil ?_
      with_unfolding_all refine thenQ_normal ?_
      with_unfolding_all refine TE_ret ?_
      with_unfolding_all refine thenQ_ret ?_
      obtain rfl := some_s hF
      exact done_any (vs := [v16, .int .i64 (x6.2)]) (.inr rfl) rfl (resR_tmp rfl (resR_tmp rfl resR_nil)) ⟨⟨_, _, rfl, h18, rfl⟩, hO24.ext⟩
    · skip
      replace hF := ite_f hc28 hF
      with_unfolding_all refine TE_skip ?_
      with_unfolding_all refine thenQ_normal ?_
      with_unfolding_all refine TE_seq ?_
      with_unfolding_all refine TE_seq ?_
      with_unfolding_all refine TE_seqY ?_
      have hM30 := MB_none s23
      with_unfolding_all refine TX_fieldAddr_p rfl rfl rfl ?_
      with_unfolding_all refine TX_load_p rfl (MC_none (hO24.obj 0 rfl)) rfl ?_
      with_unfolding_all refine TX_cmp rfl rfl rfl ?_
      with_unfolding_all refine TX_nil ?_
      with_unfolding_all refine thenQ_normal ?_
      with_unfolding_all refine TE_cond rfl (fun hc31 => ?_) (fun hc31 => ?_)
      · skip
        replace hF := ite_t hc31 hF
        with_unfolding_all refine TE_seq ?_
        with_unfolding_all refine TE_seqY ?_
        have hM32 := MB_none s23
        with_unfolding_all refine TX_assign rfl ?_
        with_unfolding_all refine TX_assign rfl ?_
        with_unfolding_all refine TX_nil ?_
        with_unfolding_all refine thenQ_normal ?_
        with_unfolding_all refine TE_ret ?_
        with_unfolding_all refine thenQ_ret ?_
        obtain rfl := some_s hF
        exact done_any (vs := [.nils, .int .i64 (0)]) (.inr rfl) rfl (resR_tmp rfl (resR_tmp rfl resR_nil)) ⟨⟨_, _, rfl, (RS.nil e_match_Match), rfl⟩, hO24.ext⟩
      · skip
        replace hF := ite_f hc31 hF
        with_unfolding_all refine TE_skip ?_
        with_unfolding_all refine thenQ_normal ?_
        with_unfolding_all refine TE_seq ?_
        obtain ⟨x33, h34, hF⟩ := bind_s hF
        with_unfolding_all refine TE_seqY ?_
        have hM35 := MB_none s23
        with_unfolding_all refine TX_move rfl ?_
        with_unfolding_all refine TX_fieldAddr_p rfl rfl rfl ?_
        with_unfolding_all refine TX_load_p rfl (MC_none (hO24.obj 0 rfl)) rfl ?_
        with_unfolding_all refine TX_ari rfl rfl rfl ?_
        have hc36 : CallE Try.prog 72 [v0_, .int .i64 ((IntKind.wrap .i64 (x1_.Hi + 1)))] s23 _ := match_some_ok h34 h0_ rfl
        with_unfolding_all refine TY_call hM35 rfl en72 hc36 ?_
        intro v37 s41 hv38 hX39 hM40
        have hO42 := hO24.ext_call hX39
        obtain ⟨v43, v44, rfl, h45, h46⟩ := hv38
        obtain rfl := h46
        with_unfolding_all refine TX_move rfl ?_
        with_unfolding_all refine TX_extract rfl rfl ?_
        with_unfolding_all refine TX_extract rfl rfl ?_
        with_unfolding_all refine TX_assign rfl ?_
        with_unfolding_all refine TX_assign rfl ?_
        with_unfolding_all refine TX_nil ?_
        with_unfolding_all refine thenQ_normal ?_
        with_unfolding_all refine TE_seq ?_
        with_unfolding_all refine TE_seq ?_
        with_unfolding_all refine TE_seqY ?_
        have hM47 := MB_none s41
        with_unfolding_all refine TX_move rfl ?_
        with_unfolding_all refine TX_cmp rfl rfl rfl ?_
        with_unfolding_all refine TX_nil ?_
        with_unfolding_all refine thenQ_normal ?_
        with_unfolding_all refine TE_cond rfl (fun hc48 => ?_) (fun hc48 => ?_)
        · skip
          replace hF := ite_t hc48 hF
          with_unfolding_all refine TE_seq ?_
          with_unfolding_all refine TE_seqY ?_
          have hM49 := MB_none s41
          with_unfolding_all refine TX_move rfl ?_
          with_unfolding_all refine TX_assign rfl ?_
          with_unfolding_all refine TX_assign rfl ?_
          with_unfolding_all refine TX_nil ?_
          with_unfolding_all refine thenQ_normal ?_
          with_unfolding_all refine TE_ret ?_
          with_unfolding_all refine thenQ_ret ?_
          obtain rfl := some_s hF
          exact done_any (vs := [.nils, .int .i64 (x33.2)]) (.inr rfl) rfl (resR_tmp rfl (resR_tmp rfl resR_nil)) ⟨⟨_, _, rfl, (RS.nil e_match_Match), rfl⟩, hO42.ext⟩
        · skip
          replace hF := ite_f hc48 hF
          with_unfolding_all refine TE_skip ?_
          with_unfolding_all refine thenQ_normal ?_
          with_unfolding_all refine TE_seq ?_
          obtain ⟨x50, h51, hF⟩ := bind_s hF
          with_unfolding_all refine TE_seqY ?_
          have hM52 := MB_none s41
          with_unfolding_all refine TX_move rfl ?_
          have hc53 : CallE Try.prog 20 [v43] s41 _ := match_Not_ok h51 h45
          with_unfolding_all refine TY_call hM52 rfl en20 hc53 ?_
          intro v54 s58 hv55 hX56 hM57
          have hO59 := hO42.ext_call hX56
          obtain ⟨v60, v61, rfl, h62, h63⟩ := hv55
          obtain rfl := h63
          with_unfolding_all refine TX_move rfl ?_
          with_unfolding_all refine TX_extract rfl rfl ?_
          with_unfolding_all refine TX_extract rfl rfl ?_
          with_unfolding_all refine TX_assign rfl ?_
          with_unfolding_all refine TX_assign rfl ?_
          with_unfolding_all refine TX_nil ?_
          with_unfolding_all refine thenQ_normal ?_
          with_unfolding_all refine TE_seq ?_
          with_unfolding_all refine TE_seq ?_
          with_unfolding_all refine TE_seqY ?_
          have hM64 := MB_none s58
          with_unfolding_all refine TX_move rfl ?_
          with_unfolding_all refine TX_cmp rfl rfl rfl ?_
          with_unfolding_all refine TX_nil ?_
          with_unfolding_all refine thenQ_normal ?_
          with_unfolding_all refine TE_cond rfl (fun hc65 => ?_) (fun hc65 => ?_)
          · skip
            replace hF := ite_t hc65 hF
            with_unfolding_all refine TE_seq ?_
            with_unfolding_all refine TE_seqY ?_
            have hM66 := MB_none s58
            with_unfolding_all refine TX_move rfl ?_
            with_unfolding_all refine TX_assign rfl ?_
            with_unfolding_all refine TX_assign rfl ?_
            with_unfolding_all refine TX_nil ?_
            with_unfolding_all refine thenQ_normal ?_
            with_unfolding_all refine TE_ret ?_
            with_unfolding_all refine thenQ_ret ?_
            obtain rfl := some_s hF
            exact done_any (vs := [.nils, .int .i64 (x50.2)]) (.inr rfl) rfl (resR_tmp rfl (resR_tmp rfl resR_nil)) ⟨⟨_, _, rfl, (RS.nil e_match_Match), rfl⟩, hO59.ext⟩
          · skip
            replace hF := ite_f hc65 hF
            with_unfolding_all refine TE_skip ?_
            with_unfolding_all refine thenQ_normal ?_
            with_unfolding_all refine TE_seq ?_
            obtain ⟨x67, h68, hF⟩ := bind_s hF
            with_unfolding_all refine TE_seqY ?_
            have hM69 := MB_none s58
            with_unfolding_all refine TX_move rfl ?_
            with_unfolding_all refine TX_move rfl ?_
            have hc70 : CallE Try.prog 19 [v16, v60] s58 _ := match_And_ok h68 h18 h62
            with_unfolding_all refine TY_call hM69 rfl en19 hc70 ?_
            intro v71 s75 hv72 hX73 hM74
            have hO76 := hO59.ext_call hX73
            obtain ⟨v77, v78, rfl, h79, h80⟩ := hv72
            obtain rfl := h80
            with_unfolding_all refine TX_extract rfl rfl ?_
            with_unfolding_all refine TX_extract rfl rfl ?_
            with_unfolding_all refine TX_assign rfl ?_
            with_unfolding_all refine TX_assign rfl ?_
            with_unfolding_all refine TX_nil ?_
            with_unfolding_all refine thenQ_normal ?_
            with_unfolding_all refine TE_ret ?_
            obtain rfl := some_s hF
            exact done_any (vs := [v77, .int .i64 (x67.2)]) (.inr rfl) rfl (resR_tmp rfl (resR_tmp rfl resR_nil)) ⟨⟨_, _, rfl, h79, rfl⟩, hO76.ext⟩
theorem law12_choose_fu_ok : ∀ (fu : Nat) {x0_ : (List match_Match)} {x1_ : Int} {x2_ : Int} {x3_ : match_Match} {x4_ : (List match_Match)} {y : (List match_Match)} (hF : F.law12_choose_fu fu x0_ x1_ x2_ x3_ x4_ = some y) {v0_ : AV} {v1_ : AV} {v2_ : AV} {v3_ : AV} {v4_ : AV} {σ : Mem} (h0_ : (RS e_match_Match) v0_ x0_) (h1_ : (eI .i64).rel v1_ x1_) (h2_ : (eI .i64).rel v2_ x2_) (h3_ : e_match_Match.rel v3_ x3_) (h4_ : (RS e_match_Match) v4_ x4_) (hb4_ : Res.ok σ (.buf v4_)),
    CallE Try.prog 33 [v0_, v1_, v2_, v3_, v4_] σ (fun v σ' => (RS e_match_Match) v y ∧ Own σ (idsL [.buf v4_]) σ' [.buf v]) := by
  intro fu
  induction fu with
  | zero =>
    intro x0_ x1_ x2_ x3_ x4_ y hF
    simp [F.law12_choose_fu] at hF
  | succ fu ih =>
    intro x0_ x1_ x2_ x3_ x4_ y hF v0_ v1_ v2_ v3_ v4_ σ h0_ h1_ h2_ h3_ h4_ hb4_
    rw [F.law12_choose_fu.eq_2] at hF
    obtain rfl := h1_
    obtain rfl := h2_
    obtain ⟨u1, u3, rfl, h2, h4⟩ := h3_
    refine CallE_of Try.func33 rfl Try.ntmps33 (by simp) ?_
    have hO0 := Own.startB hb4_
    with_unfolding_all refine TE_seq ?_
    with_unfolding_all refine TE_seqY ?_
    have hM5 := MB_none σ
    with_unfolding_all refine TY_box hO0 hM5 rfl rfl ?_
    rintro id6 s7 (hO8 : Own σ (idsL [.buf v4_]) s7 [.obj id6 [u1, u3], .buf v4_]) hM9
    with_unfolding_all refine TX_assign rfl ?_
    with_unfolding_all refine TX_nil ?_
    with_unfolding_all refine thenQ_normal ?_
    with_unfolding_all refine TE_seq ?_
    with_unfolding_all refine TE_seq ?_
    with_unfolding_all refine TE_seqY ?_
    have hM10 := MB_none s7
    with_unfolding_all refine TX_move rfl ?_
    with_unfolding_all refine TX_cmp rfl rfl rfl ?_
    with_unfolding_all refine TX_nil ?_
    with_unfolding_all refine thenQ_normal ?_
    with_unfolding_all refine TE_cond rfl (fun hc11 => ?_) (fun hc11 => ?_)
    · skip
      replace hF := ite_t hc11 hF
      with_unfolding_all refine TE_seq ?_
      obtain ⟨x12, h13, hF⟩ := bind_s hF
      with_unfolding_all refine TE_seqY ?_
      have hM14 := MB_none s7
      with_unfolding_all refine TX_move rfl ?_
      with_unfolding_all refine TX_load_p rfl (MC_none (hO8.obj 0 rfl)) rfl ?_
      have h15 : All2 e_match_Match.rel ([.agg [u1, u3]] : List AV) ([x3_] : (List match_Match)) := ⟨⟨u1, u3, rfl, h2, h4⟩, trivial⟩
      with_unfolding_all refine TY_buildSlice rfl rfl rfl rfl rfl h15 rfl (by decide) (by with_unfolding_all exact Nat.le_of_ble_eq_true rfl) ?_
      have h16 : RS e_match_Match (.sl [.agg [u1, u3]] .full) ([x3_] : (List match_Match)) := RS.of h15
      have hO17 : Own σ (idsL [.buf v4_]) s7 [.buf v4_, .obj id6 [u1, u3]] := hO8.front 1 rfl rfl
      with_unfolding_all refine TY_append appT22_22 hO17 hM14 rfl rfl rfl rfl h4_ rfl h16 h13 ?_
      rintro u18 s20 (h19 : RS e_match_Match u18 x12) (hO21 : Own σ (idsL [.buf v4_]) s20 [.buf u18, .obj id6 [u1, u3]]) hM22
      with_unfolding_all refine TX_assign rfl ?_
      with_unfolding_all refine TX_nil ?_
      with_unfolding_all refine thenQ_normal ?_
      with_unfolding_all refine TE_ret ?_
      with_unfolding_all refine thenQ_ret ?_
      obtain rfl := some_s hF
      exact done_any (vs := [u18]) (.inr rfl) rfl (resR_tmp rfl resR_nil) ⟨h19, hO21.sub 1 rfl⟩
    · skip
      replace hF := ite_f hc11 hF
      with_unfolding_all refine TE_skip ?_
      with_unfolding_all refine thenQ_normal ?_
      with_unfolding_all refine TE_seq ?_
      with_unfolding_all refine TE_seq ?_
      with_unfolding_all refine TE_seqY ?_
      have hM23 := MB_none s7
      with_unfolding_all refine TX_move rfl ?_
      with_unfolding_all refine TX_assign rfl ?_
      with_unfolding_all refine TX_nil ?_
      with_unfolding_all refine thenQ_normal ?_
      with_unfolding_all refine TE_block ?_
      obtain ⟨p30, h36, hF⟩ := bind_s hF
      refine TE_iter (f := F.law12_choose_s1 (F.law12_choose_fu fu) x0_ x2_ x3_) (s0 := (x4_, x1_)) (a := p30) (fun (q24 : ((List match_Match) × Int)) z => ∃ (u26 : AV) (s28 : Mem), RS e_match_Match u26 q24.1 ∧ Own σ (idsL [.buf v4_]) s28 [.buf u26, .obj id6 [u1, u3]] ∧ Le z ⟨fr 50 [(0, v0_), (2, .int .i64 (x2_)), (4, u26), (8, .ptr id6 0), (11, .int .i64 (q24.2))], [], s28⟩) (fun (p30 : (List match_Match)) e z => (e = .exit 0 ∧ ∃ (u31 : AV) (s33 : Mem), RS e_match_Match u31 p30 ∧ Own σ (idsL [.buf v4_]) s33 [.buf u31, .obj id6 [u1, u3]] ∧ Le z ⟨fr 50 [(4, u31)], [], s33⟩)) h36 ?_ ?_ ?_
      · skip
        have hO37 : Own σ (idsL [.buf v4_]) s7 [.buf v4_, .obj id6 [u1, u3]] := hO8.front 1 rfl rfl
        exact ⟨v4_, s7, h4_, (hO37.sub 2 rfl), (Le_fr ⟨rfl, ⟨rfl, ⟨rfl, ⟨rfl, ⟨rfl, trivial⟩⟩⟩⟩⟩)⟩
      · skip
        clear hF
        rintro q24 zq24 r25 ⟨u26, s28, h27, hO29, hz38⟩ hF
        unfold F.law12_choose_s1 at hF
        refine TE_pre hz38 ?_
        with_unfolding_all refine TE_seq ?_
        with_unfolding_all refine TE_seq ?_
        with_unfolding_all refine TE_seqY ?_
        have hM39 := MB_none s28
        with_unfolding_all refine TX_move rfl ?_
        with_unfolding_all refine TX_move rfl ?_
        with_unfolding_all refine TY_len rfl rfl rfl rfl h0_ rfl ?_
        with_unfolding_all refine TX_cmp rfl rfl rfl ?_
        with_unfolding_all refine TX_nil ?_
        with_unfolding_all refine thenQ_normal ?_
        with_unfolding_all refine TE_cond rfl (fun hc40 => ?_) (fun hc40 => ?_)
        · skip
          replace hF := ite_t hc40 hF
          with_unfolding_all refine TE_skip ?_
          with_unfolding_all refine thenQ_normal ?_
          with_unfolding_all refine TE_seq ?_
          with_unfolding_all refine TE_block ?_
          obtain ⟨x41, h42, hF⟩ := bind_s hF
          obtain ⟨x47, h48, hF⟩ := bind_s hF
          obtain ⟨x49, h50, hF⟩ := bind_s hF
          obtain ⟨x55, h56, hF⟩ := bind_s hF
          obtain ⟨x57, h58, hF⟩ := bind_s hF
          have hB59 : Bs [(id6, [u1, u3])] s28 := Bs.cons (hO29.obj 1 rfl) (Bs.nil _)
          with_unfolding_all refine TE_drawY [(id6, [u1, u3])] (by with_unfolding_all rfl) (by kernel_rfl) hB59 ?_
          have hM60 := MB_some hB59
          with_unfolding_all refine TX_move rfl ?_
          with_unfolding_all refine TX_move rfl ?_
          with_unfolding_all refine TX_ari rfl rfl rfl ?_
          with_unfolding_all refine TX_move rfl ?_
          with_unfolding_all refine TX_ari rfl rfl rfl ?_
          with_unfolding_all refine TX_fieldAddr_p rfl rfl rfl ?_
          with_unfolding_all refine TX_load_p rfl (MC_some 0 rfl) rfl ?_
          with_unfolding_all refine TX_move rfl ?_
          with_unfolding_all refine TX_move rfl ?_
          with_unfolding_all refine TY_idx (E := e_match_Match) rfl rfl rfl h0_ rfl h42 ?_
          intro u61 h62
          obtain ⟨u63, u65, rfl, h64, h66⟩ := h62
          with_unfolding_all refine TX_fieldAddr_c rfl rfl rfl ?_
          with_unfolding_all refine TX_load_c rfl rfl ?_
          have hc67 : CallE Try.prog 40 [u1, u63] s28 _ := law12_both_ok h48 h2 h64
          with_unfolding_all refine TY_callN hM60 rfl en40 hc67 (fun _ _ h => ⟨_, h.2⟩) ?_
          rintro v68 s72 ⟨hv69, hX70⟩ hM71
          have hO73 : Own σ (idsL [.buf v4_]) s72 [.buf v68, .buf u26, .obj id6 [u1, u3]] := Own.call (A := []) hO29 hX70
          with_unfolding_all refine TX_fieldAddr_p rfl rfl rfl ?_
          with_unfolding_all refine TX_load_p rfl (MC_some 0 rfl) rfl ?_
          with_unfolding_all refine TX_move rfl ?_
          with_unfolding_all refine TX_move rfl ?_
          with_unfolding_all refine TY_idx (E := e_match_Match) rfl rfl rfl h0_ rfl h50 ?_
          intro u74 h75
          obtain ⟨u76, u78, rfl, h77, h79⟩ := h75
          with_unfolding_all refine TX_fieldAddr_c rfl rfl rfl ?_
          with_unfolding_all refine TX_load_c rfl rfl ?_
          have hc80 : CallE Try.prog 40 [u3, u78] s72 _ := law12_both_ok h56 h4 h79
          with_unfolding_all refine TY_callN hM71 rfl en40 hc80 (fun _ _ h => ⟨_, h.2⟩) ?_
          rintro v81 s85 ⟨hv82, hX83⟩ hM84
          have hO86 : Own σ (idsL [.buf v4_]) s85 [.buf v81, .buf v68, .buf u26, .obj id6 [u1, u3]] := Own.call (A := []) hO73 hX83
          with_unfolding_all refine TY_build [v68, v81] rfl rfl rfl (by with_unfolding_all exact Fill.cons rfl (RS.cells hv69) rfl (by with_unfolding_all exact Nat.le_of_ble_eq_true rfl) (Fill.cons rfl (RS.cells hv82) rfl (by with_unfolding_all exact Nat.le_of_ble_eq_true rfl) (Fill.nil _))) (by with_unfolding_all rfl) ?_
          with_unfolding_all refine TX_move rfl ?_
          have hO87 : Own σ (idsL [.buf v4_]) s85 [.buf u26, .buf v81, .buf v68, .obj id6 [u1, u3]] := hO86.front 2 rfl rfl
          have hc88 : CallE Try.prog 33 [v0_, .int .i64 ((IntKind.wrap .i64 (q24.2 + 1))), .int .i64 ((IntKind.wrap .i64 (x2_ - 1))), .agg [v68, v81], u26] s85 _ := ih h58 h0_ rfl rfl ⟨v68, v81, rfl, hv69, hv82⟩ h27 (hO87.ok _ List.mem_cons_self)
          with_unfolding_all refine TY_callB (u := u26) hM84 (hO87.ok _ List.mem_cons_self) rfl en33 hc88 (fun _ _ h => ⟨_, h.2⟩) ?_
          rintro v89 s93 ⟨hv90, hX91⟩ hM92
          have hO94 : Own σ (idsL [.buf v4_]) s93 [.buf v89, .buf v81, .buf v68, .obj id6 [u1, u3]] := Own.call (A := [.buf u26]) hO87 hX91
          with_unfolding_all refine TX_assign rfl ?_
          with_unfolding_all refine TX_nil ?_
          with_unfolding_all refine blockQ_normal ?_
          with_unfolding_all refine thenQ_normal ?_
          with_unfolding_all refine TE_seqY ?_
          have hM95 := MB_none s93
          with_unfolding_all refine TX_move rfl ?_
          with_unfolding_all refine TX_ari rfl rfl rfl ?_
          with_unfolding_all refine TX_assign rfl ?_
          with_unfolding_all refine TX_nil ?_
          obtain rfl := some_s hF
          have hO96 : Own σ (idsL [.buf v4_]) s93 [.obj id6 [u1, u3], .buf v89, .buf v81, .buf v68] := hO94.front 3 rfl rfl
          have hO97 : Own σ (idsL [.buf v4_]) s93 [.buf v89, .obj id6 [u1, u3], .buf v81, .buf v68] := hO96.front 1 rfl rfl
          exact iterQ_again ⟨v89, s93, hv90, (hO97.sub 2 rfl), (Le_fr ⟨rfl, ⟨rfl, ⟨rfl, ⟨rfl, ⟨rfl, trivial⟩⟩⟩⟩⟩)⟩
        · skip
          replace hF := ite_f hc40 hF
          with_unfolding_all refine TE_exit ?_
          with_unfolding_all refine thenQ_exit ?_
          obtain rfl := some_s hF
          have hO98 : Own σ (idsL [.buf v4_]) s28 [.obj id6 [u1, u3], .buf u26] := hO29.front 1 rfl rfl
          have hO99 : Own σ (idsL [.buf v4_]) s28 [.buf u26, .obj id6 [u1, u3]] := hO98.front 1 rfl rfl
          exact iterQ_exit (⟨rfl, u26, s28, h27, (hO99.sub 2 rfl), (Le_fr ⟨rfl, trivial⟩)⟩)
      · skip
        rintro eq24 zq24 (⟨rfl, u31, s33, h32, hO34, hz100⟩)
        with_unfolding_all refine blockQ_out ?_
        with_unfolding_all refine thenQ_normal ?_
        refine TE_pre hz100 ?_
        with_unfolding_all refine TE_seq ?_
        with_unfolding_all refine TE_seqY ?_
        have hM101 := MB_none s33
        with_unfolding_all refine TX_move rfl ?_
        with_unfolding_all refine TX_assign rfl ?_
        with_unfolding_all refine TX_nil ?_
        with_unfolding_all refine thenQ_normal ?_
        with_unfolding_all refine TE_ret ?_
        obtain rfl := some_s hF
        exact done_any (vs := [u31]) (.inr rfl) rfl (resR_tmp rfl resR_nil) ⟨h32, hO34.sub 1 rfl⟩
theorem law12_choose_ok {x0_ : (List match_Match)} {x1_ : Int} {x2_ : Int} {x3_ : match_Match} {x4_ : (List match_Match)} {y : (List match_Match)} (hF : F.law12_choose x0_ x1_ x2_ x3_ x4_ = some y) {v0_ : AV} {v1_ : AV} {v2_ : AV} {v3_ : AV} {v4_ : AV} {σ : Mem} (h0_ : (RS e_match_Match) v0_ x0_) (h1_ : (eI .i64).rel v1_ x1_) (h2_ : (eI .i64).rel v2_ x2_) (h3_ : e_match_Match.rel v3_ x3_) (h4_ : (RS e_match_Match) v4_ x4_) (hb4_ : Res.ok σ (.buf v4_)) :
    CallE Try.prog 33 [v0_, v1_, v2_, v3_, v4_] σ (fun v σ' => (RS e_match_Match) v y ∧ Own σ (idsL [.buf v4_]) σ' [.buf v]) := law12_choose_fu_ok 1000 hF h0_ h1_ h2_ h3_ h4_ hb4_
end Go.Proofs.Ytihbdelgoapeoaa.K
