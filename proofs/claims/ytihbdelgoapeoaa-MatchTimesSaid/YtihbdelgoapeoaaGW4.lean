/- Walks. Printed. -/
import Derived.Test.YtihbdelgoapeoaaGW3
namespace Go.Proofs.Ytihbdelgoapeoaa.K
open Go Go.RowKit F
set_option maxRecDepth 100000
set_option maxHeartbeats 4000000
set_option linter.unusedVariables false
set_option linter.unusedSimpArgs false
theorem match_few_ok {x0_ : (List match_Match)} {y : ((List match_Match) × Int)} (hF : F.match_few x0_ = some y) {v0_ : AV} {σ : Mem} (h0_ : (RS e_match_Match) v0_ x0_)  :
    CallE Try.prog 61 [v0_] σ (fun v σ' => (R2 (RS e_match_Match) (eI .i64).rel) v y ∧ Ext σ σ') := by
  unfold F.match_few at hF
  refine CallE_of Try.func61 rfl Try.ntmps61 (by simp) ?_
  have hO0 := Own.start σ
  with_unfolding_all refine TE_seq ?_
  with_unfolding_all refine TE_seqY ?_
  have hM1 := MB_none σ
  with_unfolding_all refine TX_assign rfl ?_
  with_unfolding_all refine TX_assign rfl ?_
  with_unfolding_all refine TX_nil ?_
  with_unfolding_all refine thenQ_normal ?_
  with_unfolding_all refine TE_seq ?_
  with_unfolding_all refine TE_seq ?_
  with_unfolding_all refine TE_seqY ?_
  have hM2 := MB_none σ
  with_unfolding_all refine TX_move rfl ?_
  with_unfolding_all refine TY_len rfl rfl rfl rfl h0_ rfl ?_
  with_unfolding_all refine TX_cmp rfl rfl rfl ?_
  with_unfolding_all refine TX_nil ?_
  with_unfolding_all refine thenQ_normal ?_
  with_unfolding_all refine TE_cond rfl (fun hc3 => ?_) (fun hc3 => ?_)
  · skip
    replace hF := ite_t hc3 hF
    with_unfolding_all refine TE_seq ?_
    with_unfolding_all refine TE_seqY ?_
    have hM4 := MB_none σ
    with_unfolding_all refine TX_assign rfl ?_
    with_unfolding_all refine TX_assign rfl ?_
    with_unfolding_all refine TX_nil ?_
    with_unfolding_all refine thenQ_normal ?_
    with_unfolding_all refine TE_ret ?_
    with_unfolding_all refine thenQ_ret ?_
    obtain rfl := some_s hF
    exact done_any (vs := [.nils, .int .i64 (23)]) (.inr rfl) rfl (resR_tmp rfl (resR_tmp rfl resR_nil)) ⟨⟨_, _, rfl, (RS.nil e_match_Match), rfl⟩, hO0.ext⟩
  · skip
    replace hF := ite_f hc3 hF
    with_unfolding_all refine TE_skip ?_
    with_unfolding_all refine thenQ_normal ?_
    with_unfolding_all refine TE_seq ?_
    with_unfolding_all refine TE_seqY ?_
    have hM5 := MB_none σ
    with_unfolding_all refine TX_move rfl ?_
    with_unfolding_all refine TX_assign rfl ?_
    with_unfolding_all refine TX_assign rfl ?_
    with_unfolding_all refine TX_nil ?_
    with_unfolding_all refine thenQ_normal ?_
    with_unfolding_all refine TE_ret ?_
    obtain rfl := some_s hF
    exact done_any (vs := [v0_, .int .i64 (0)]) (.inr rfl) rfl (resR_tmp rfl (resR_tmp rfl resR_nil)) ⟨⟨_, _, rfl, h0_, rfl⟩, hO0.ext⟩
theorem match_Or_ok {x0_ : (List match_Match)} {x1_ : (List match_Match)} {y : ((List match_Match) × Int)} (hF : F.match_Or x0_ x1_ = some y) {v0_ : AV} {v1_ : AV} {σ : Mem} (h0_ : (RS e_match_Match) v0_ x0_) (h1_ : (RS e_match_Match) v1_ x1_)  :
    CallE Try.prog 18 [v0_, v1_] σ (fun v σ' => (R2 (RS e_match_Match) (eI .i64).rel) v y ∧ Ext σ σ') := by
  unfold F.match_Or at hF
  refine CallE_of Try.func18 rfl Try.ntmps18 (by simp) ?_
  have hO0 := Own.start σ
  with_unfolding_all refine TE_seq ?_
  with_unfolding_all refine TE_seqY ?_
  have hM1 := MB_none σ
  with_unfolding_all refine TX_assign rfl ?_
  with_unfolding_all refine TX_assign rfl ?_
  with_unfolding_all refine TX_nil ?_
  with_unfolding_all refine thenQ_normal ?_
  with_unfolding_all refine TE_seq ?_
  obtain ⟨x2, h3, hF⟩ := bind_s hF
  obtain ⟨x4, h5, hF⟩ := bind_s hF
  obtain ⟨x6, h7, hF⟩ := bind_s hF
  with_unfolding_all refine TE_seqY ?_
  have hM8 := MB_none σ
  with_unfolding_all refine TX_move rfl ?_
  with_unfolding_all refine TX_move rfl ?_
  have h9 : All2 (eL e_match_Match).rel ([v0_, v1_] : List AV) ([x0_, x1_] : (List (List match_Match))) := ⟨h0_, ⟨h1_, trivial⟩⟩
  with_unfolding_all refine TY_buildSlice rfl rfl rfl rfl rfl h9 rfl (by decide) (by with_unfolding_all exact Nat.le_of_ble_eq_true rfl) ?_
  have h10 : RS (eL e_match_Match) (.sl [v0_, v1_] .full) ([x0_, x1_] : (List (List match_Match))) := RS.of h9
  have hc11 : CallE Try.prog 62 [(.sl [v0_, v1_] .full)] σ _ := slices_Concat_match_Match_match_Match_ok h3 h10
  with_unfolding_all refine TY_call hM8 rfl en62 hc11 ?_
  intro v12 s16 hv13 hX14 hM15
  have hO17 := hO0.ext_call hX14
  have hc24 : CallE Try.prog 59 [v12, .fn (.func 63) [] []] s16 _ := match_keep_ok h5 hv13 ⟨63, [], [], rfl, en63, fun _ hX18 v19 x20 y22 h21 hy23 => match_Or_1_ok hy23 h21 ⟩
  with_unfolding_all refine TY_call hM15 rfl en59 hc24 ?_
  intro v25 s29 hv26 hX27 hM28
  have hO30 := hO17.ext_call hX27
  have hc31 : CallE Try.prog 61 [v25] s29 _ := match_few_ok h7 hv26
  with_unfolding_all refine TY_call hM28 rfl en61 hc31 ?_
  intro v32 s36 hv33 hX34 hM35
  have hO37 := hO30.ext_call hX34
  obtain ⟨v38, v39, rfl, h40, h41⟩ := hv33
  obtain rfl := h41
  with_unfolding_all refine TX_extract rfl rfl ?_
  with_unfolding_all refine TX_extract rfl rfl ?_
  with_unfolding_all refine TX_assign rfl ?_
  with_unfolding_all refine TX_assign rfl ?_
  with_unfolding_all refine TX_nil ?_
  with_unfolding_all refine thenQ_normal ?_
  with_unfolding_all refine TE_ret ?_
  obtain rfl := some_s hF
  exact done_any (vs := [v38, .int .i64 (x6.2)]) (.inr rfl) rfl (resR_tmp rfl (resR_tmp rfl resR_nil)) ⟨⟨_, _, rfl, h40, rfl⟩, hO37.ext⟩
theorem law12_both_ok {x0_ : (List match_Span)} {x1_ : (List match_Span)} {y : (List match_Span)} (hF : F.law12_both x0_ x1_ = some y) {v0_ : AV} {v1_ : AV} {σ : Mem} (h0_ : (RS e_match_Span) v0_ x0_) (h1_ : (RS e_match_Span) v1_ x1_)  :
    CallE Try.prog 40 [v0_, v1_] σ (fun v σ' => (RS e_match_Span) v y ∧ Own σ [] σ' [.buf v]) := by
  unfold F.law12_both at hF
  refine CallE_of Try.func40 rfl Try.ntmps40 (by simp) ?_
  have hO0 := Own.start σ
  with_unfolding_all refine TE_seq ?_
  with_unfolding_all refine TE_seqY ?_
  have hM1 := MB_none σ
  with_unfolding_all refine TX_assign rfl ?_
  with_unfolding_all refine TX_nil ?_
  with_unfolding_all refine thenQ_normal ?_
  with_unfolding_all refine TE_seq ?_
  obtain ⟨x2, h3, hF⟩ := bind_s hF
  obtain ⟨x4, h5, hF⟩ := bind_s hF
  with_unfolding_all refine TE_seqY ?_
  have hM6 := MB_none σ
  have h7 : All2 e_match_Span.rel ([] : List AV) ([] : (List match_Span)) := trivial
  with_unfolding_all refine TY_buildSlice rfl rfl rfl rfl rfl h7 rfl (by decide) (by with_unfolding_all exact Nat.le_of_ble_eq_true rfl) ?_
  have h8 : RS e_match_Span (.sl [] .full) ([] : (List match_Span)) := RS.of h7
  with_unfolding_all refine TX_move rfl ?_
  have hO9 : Own σ [] σ [.buf (.sl [] .full)] := hO0.bufFull []
  with_unfolding_all refine TY_append appT25_25 hO9 hM6 rfl rfl rfl rfl h8 rfl h0_ h3 ?_
  rintro u10 s12 (h11 : RS e_match_Span u10 x2) (hO13 : Own σ [] s12 [.buf u10]) hM14
  with_unfolding_all refine TX_move rfl ?_
  with_unfolding_all refine TY_append appT25_25 hO13 hM14 rfl rfl rfl rfl h11 rfl h1_ h5 ?_
  rintro u15 s17 (h16 : RS e_match_Span u15 x4) (hO18 : Own σ [] s17 [.buf u15]) hM19
  with_unfolding_all refine TX_assign rfl ?_
  with_unfolding_all refine TX_nil ?_
  with_unfolding_all refine thenQ_normal ?_
  with_unfolding_all refine TE_ret ?_
  obtain rfl := some_s hF
  exact done_any (vs := [u15]) (.inr rfl) rfl (resR_tmp rfl resR_nil) ⟨h16, hO18.sub 1 rfl⟩
theorem law12_and_ok {x0_ : (List match_Match)} {x1_ : (List match_Match)} {y : ((List match_Match) × Bool)} (hF : F.law12_and x0_ x1_ = some y) {v0_ : AV} {v1_ : AV} {σ : Mem} (h0_ : (RS e_match_Match) v0_ x0_) (h1_ : (RS e_match_Match) v1_ x1_)  :
    CallE Try.prog 21 [v0_, v1_] σ (fun v σ' => (R2 (RS e_match_Match) eB.rel) v y ∧ Ext σ σ') := by
  unfold F.law12_and at hF
  refine CallE_of Try.func21 rfl Try.ntmps21 (by simp) ?_
  have hO0 := Own.start σ
  with_unfolding_all refine TE_seq ?_
  with_unfolding_all refine TE_seqY ?_
  have hM1 := MB_none σ
  with_unfolding_all refine TX_assign rfl ?_
  with_unfolding_all refine TX_assign rfl ?_
  with_unfolding_all refine TX_nil ?_
  with_unfolding_all refine thenQ_normal ?_
  with_unfolding_all refine TE_seq ?_
  with_unfolding_all refine TE_seqY ?_
  have hM2 := MB_none σ
  have h3 : All2 e_match_Match.rel ([] : List AV) ([] : (List match_Match)) := trivial
  with_unfolding_all refine TY_buildSlice rfl rfl rfl rfl rfl h3 rfl (by decide) (by with_unfolding_all exact Nat.le_of_ble_eq_true rfl) ?_
  have h4 : RS e_match_Match (.sl [] .full) ([] : (List match_Match)) := RS.of h3
  with_unfolding_all refine TX_assign rfl ?_
  with_unfolding_all refine TX_nil ?_
  with_unfolding_all refine thenQ_normal ?_
  with_unfolding_all refine TE_seq ?_
  with_unfolding_all refine TE_seq ?_
  with_unfolding_all refine TE_seqY ?_
  have hM5 := MB_none σ
  with_unfolding_all refine TX_move rfl ?_
  with_unfolding_all refine TY_len rfl rfl rfl rfl h0_ rfl ?_
  with_unfolding_all refine TX_move rfl ?_
  with_unfolding_all refine TX_nil ?_
  with_unfolding_all refine thenQ_normal ?_
  with_unfolding_all refine TE_block ?_
  obtain ⟨p12, h18, hF⟩ := bind_s hF
  refine TE_iter (f := F.law12_and_s1 x0_ x1_) (s0 := (([] : (List match_Match)), 0)) (a := p12) (fun (q6 : ((List match_Match) × Int)) z => ∃ (u8 : AV) (s10 : Mem), RS e_match_Match u8 q6.1 ∧ Own σ [] s10 [.buf u8] ∧ Le z ⟨fr 47 [(0, v0_), (1, v1_), (6, u8), (12, v0_), (13, .int .i64 ((x0_.length : Int))), (14, .int .i64 (q6.2))], [], s10⟩) (fun (p12 : (List match_Match)) e z => (e = .exit 0 ∧ ∃ (u13 : AV) (s15 : Mem), RS e_match_Match u13 p12 ∧ Own σ [] s15 [.buf u13] ∧ Le z ⟨fr 47 [(0, v0_), (1, v1_), (6, u13)], [], s15⟩)) h18 ?_ ?_ ?_
  · skip
    have hO19 : Own σ [] σ [.buf (.sl [] .full)] := hO0.bufFull []
    exact ⟨(.sl [] .full), σ, h4, (hO19.sub 1 rfl), (Le_fr ⟨rfl, ⟨rfl, ⟨rfl, ⟨rfl, ⟨rfl, ⟨rfl, trivial⟩⟩⟩⟩⟩⟩)⟩
  · skip
    clear hF
    rintro q6 zq6 r7 ⟨u8, s10, h9, hO11, hz20⟩ hF
    unfold F.law12_and_s1 at hF
    refine TE_pre hz20 ?_
    with_unfolding_all refine TE_seq ?_
    with_unfolding_all refine TE_seqY ?_
    have hM21 := MB_none s10
    with_unfolding_all refine TX_cmp rfl rfl rfl ?_
    with_unfolding_all refine TX_nil ?_
    with_unfolding_all refine thenQ_normal ?_
    with_unfolding_all refine TE_seq ?_
    with_unfolding_all refine TE_cond rfl (fun hc22 => ?_) (fun hc22 => ?_)
    · skip
      replace hF := ite_t hc22 hF
      with_unfolding_all refine TE_skip ?_
      with_unfolding_all refine thenQ_normal ?_
      with_unfolding_all refine TE_seq ?_
      with_unfolding_all refine TE_block ?_
      with_unfolding_all refine TE_seq ?_
      obtain ⟨x23, h24, hF⟩ := bind_s hF
      with_unfolding_all refine TE_seqY ?_
      have hM29 := MB_none s10
      with_unfolding_all refine TY_idx (E := e_match_Match) rfl rfl rfl h0_ rfl h24 ?_
      intro u30 h31
      obtain ⟨u32, u34, rfl, h33, h35⟩ := h31
      with_unfolding_all refine TX_load_c rfl rfl ?_
      with_unfolding_all refine TY_alloc hO11 hM29 rfl rfl ?_
      rintro id36 s37 (hO38 : Own σ [] s37 [.obj id36 [.nils, .nils], .buf u8]) hM39
      with_unfolding_all refine TY_store (v := .agg [u32, u34]) (vc := [u32, u34]) hO38 hM39 (MNe.none _) rfl rfl rfl rfl (by with_unfolding_all exact Nat.le_of_ble_eq_true rfl) (ones_cons (RS.one1 h33) (ones_cons (RS.one1 h35) ones_nil)) rfl ?_
      rintro s40 (hO41 : Own σ [] s40 [.obj id36 [u32, u34], .buf u8]) hM42
      with_unfolding_all refine TX_nil ?_
      with_unfolding_all refine thenQ_normal ?_
      with_unfolding_all refine TE_seq ?_
      with_unfolding_all refine TE_seqY ?_
      have hM43 := MB_none s40
      with_unfolding_all refine TX_move rfl ?_
      with_unfolding_all refine TY_len rfl rfl rfl rfl h1_ rfl ?_
      with_unfolding_all refine TX_move rfl ?_
      with_unfolding_all refine TX_nil ?_
      with_unfolding_all refine thenQ_normal ?_
      with_unfolding_all refine TE_block ?_
      obtain ⟨p50, h56, hF⟩ := bind_s hF
      refine TE_iter (f := F.law12_and_s2 x1_ x23) (s0 := (q6.1, 0)) (a := p50) (fun (q44 : ((List match_Match) × Int)) z => ∃ (u46 : AV) (s48 : Mem), RS e_match_Match u46 q44.1 ∧ Own σ [] s48 [.buf u46, .obj id36 [u32, u34]] ∧ Le z ⟨fr 47 [(0, v0_), (1, v1_), (6, u46), (8, .ptr id36 0), (12, v0_), (13, .int .i64 ((x0_.length : Int))), (14, .int .i64 (q6.2)), (18, v1_), (19, .int .i64 ((x1_.length : Int))), (20, .int .i64 (q44.2))], [], s48⟩) (fun (p50 : (List match_Match)) e z => (e = .exit 2 ∧ ∃ (u51 : AV) (s53 : Mem), RS e_match_Match u51 p50 ∧ Own σ [] s53 [.buf u51, .obj id36 [u32, u34]] ∧ Le z ⟨fr 47 [(0, v0_), (1, v1_), (6, u51), (12, v0_), (13, .int .i64 ((x0_.length : Int))), (14, .int .i64 (q6.2))], [], s53⟩)) h56 ?_ ?_ ?_
      · skip
        have hO57 : Own σ [] s40 [.buf u8, .obj id36 [u32, u34]] := hO41.front 1 rfl rfl
        exact ⟨u8, s40, h9, (hO57.sub 2 rfl), (Le_fr ⟨rfl, ⟨rfl, ⟨rfl, ⟨rfl, ⟨rfl, ⟨rfl, ⟨rfl, ⟨rfl, ⟨rfl, ⟨rfl, trivial⟩⟩⟩⟩⟩⟩⟩⟩⟩⟩)⟩
      · skip
        clear hF
        rintro q44 zq44 r45 ⟨u46, s48, h47, hO49, hz58⟩ hF
        unfold F.law12_and_s2 at hF
        refine TE_pre hz58 ?_
        with_unfolding_all refine TE_seq ?_
        with_unfolding_all refine TE_seqY ?_
        have hM59 := MB_none s48
        with_unfolding_all refine TX_cmp rfl rfl rfl ?_
        with_unfolding_all refine TX_nil ?_
        with_unfolding_all refine thenQ_normal ?_
        with_unfolding_all refine TE_seq ?_
        with_unfolding_all refine TE_cond rfl (fun hc60 => ?_) (fun hc60 => ?_)
        · skip
          replace hF := ite_t hc60 hF
          with_unfolding_all refine TE_skip ?_
          with_unfolding_all refine thenQ_normal ?_
          with_unfolding_all refine TE_seq ?_
          with_unfolding_all refine TE_block ?_
          with_unfolding_all refine TE_seq ?_
          obtain ⟨x61, h62, hF⟩ := bind_s hF
          with_unfolding_all refine TE_seqY ?_
          have hM67 := MB_none s48
          with_unfolding_all refine TY_idx (E := e_match_Match) rfl rfl rfl h1_ rfl h62 ?_
          intro u68 h69
          obtain ⟨u70, u72, rfl, h71, h73⟩ := h69
          with_unfolding_all refine TX_load_c rfl rfl ?_
          with_unfolding_all refine TY_alloc hO49 hM67 rfl rfl ?_
          rintro id74 s75 (hO76 : Own σ [] s75 [.obj id74 [.nils, .nils], .buf u46, .obj id36 [u32, u34]]) hM77
          with_unfolding_all refine TY_store (v := .agg [u70, u72]) (vc := [u70, u72]) hO76 hM77 (MNe.none _) rfl rfl rfl rfl (by with_unfolding_all exact Nat.le_of_ble_eq_true rfl) (ones_cons (RS.one1 h71) (ones_cons (RS.one1 h73) ones_nil)) rfl ?_
          rintro s78 (hO79 : Own σ [] s78 [.obj id74 [u70, u72], .buf u46, .obj id36 [u32, u34]]) hM80
          with_unfolding_all refine TX_nil ?_
          with_unfolding_all refine thenQ_normal ?_
          obtain ⟨x81, h82, hF⟩ := bind_s hF
          obtain ⟨x83, h84, hF⟩ := bind_s hF
          obtain ⟨x85, h86, hF⟩ := bind_s hF
          have hB87 : Bs [(id36, [u32, u34]), (id74, [u70, u72])] s78 := Bs.cons (hO79.obj 2 rfl) (Bs.cons (hO79.obj 0 rfl) (Bs.nil _))
          with_unfolding_all refine TE_drawY [(id36, [u32, u34]), (id74, [u70, u72])] (by with_unfolding_all rfl) (by kernel_rfl) hB87 ?_
          have hM88 := MB_some hB87
          with_unfolding_all refine TX_move rfl ?_
          with_unfolding_all refine TX_fieldAddr_p rfl rfl rfl ?_
          with_unfolding_all refine TX_load_p rfl (MC_some 0 rfl) rfl ?_
          with_unfolding_all refine TX_fieldAddr_p rfl rfl rfl ?_
          with_unfolding_all refine TX_load_p rfl (MC_some 1 rfl) rfl ?_
          have hc89 : CallE Try.prog 40 [u32, u70] s78 _ := law12_both_ok h82 h33 h71
          with_unfolding_all refine TY_callN hM88 rfl en40 hc89 (fun _ _ h => ⟨_, h.2⟩) ?_
          rintro v90 s94 ⟨hv91, hX92⟩ hM93
          have hO95 : Own σ [] s94 [.buf v90, .obj id74 [u70, u72], .buf u46, .obj id36 [u32, u34]] := Own.call (A := []) hO79 hX92
          with_unfolding_all refine TX_fieldAddr_p rfl rfl rfl ?_
          with_unfolding_all refine TX_load_p rfl (MC_some 0 rfl) rfl ?_
          with_unfolding_all refine TX_fieldAddr_p rfl rfl rfl ?_
          with_unfolding_all refine TX_load_p rfl (MC_some 1 rfl) rfl ?_
          have hc96 : CallE Try.prog 40 [u34, u72] s94 _ := law12_both_ok h84 h35 h73
          with_unfolding_all refine TY_callN hM93 rfl en40 hc96 (fun _ _ h => ⟨_, h.2⟩) ?_
          rintro v97 s101 ⟨hv98, hX99⟩ hM100
          have hO102 : Own σ [] s101 [.buf v97, .buf v90, .obj id74 [u70, u72], .buf u46, .obj id36 [u32, u34]] := Own.call (A := []) hO95 hX99
          with_unfolding_all refine TY_build [v90, v97] rfl rfl rfl (by with_unfolding_all exact Fill.cons rfl (RS.cells hv91) rfl (by with_unfolding_all exact Nat.le_of_ble_eq_true rfl) (Fill.cons rfl (RS.cells hv98) rfl (by with_unfolding_all exact Nat.le_of_ble_eq_true rfl) (Fill.nil _))) (by with_unfolding_all rfl) ?_
          have h103 : All2 e_match_Match.rel ([.agg [v90, v97]] : List AV) ([(F.match_Match.mk x81 x83)] : (List match_Match)) := ⟨⟨v90, v97, rfl, hv91, hv98⟩, trivial⟩
          with_unfolding_all refine TY_buildSlice rfl rfl rfl rfl rfl h103 rfl (by decide) (by with_unfolding_all exact Nat.le_of_ble_eq_true rfl) ?_
          have h104 : RS e_match_Match (.sl [.agg [v90, v97]] .full) ([(F.match_Match.mk x81 x83)] : (List match_Match)) := RS.of h103
          have hO105 : Own σ [] s101 [.buf u46, .buf v97, .buf v90, .obj id74 [u70, u72], .obj id36 [u32, u34]] := hO102.front 3 rfl rfl
          with_unfolding_all refine TY_append appT22_22 hO105 hM100 rfl rfl rfl rfl h47 rfl h104 h86 ?_
          rintro u106 s108 (h107 : RS e_match_Match u106 x85) (hO109 : Own σ [] s108 [.buf u106, .buf v97, .buf v90, .obj id74 [u70, u72], .obj id36 [u32, u34]]) hM110
          with_unfolding_all refine TX_assign rfl ?_
          with_unfolding_all refine TX_nil ?_
          with_unfolding_all refine blockQ_normal ?_
          with_unfolding_all refine thenQ_normal ?_
          with_unfolding_all refine TE_seqY ?_
          have hM111 := MB_none s108
          with_unfolding_all refine TX_ari rfl rfl rfl ?_
          with_unfolding_all refine TX_move rfl ?_
          with_unfolding_all refine TX_nil ?_
          obtain rfl := some_s hF
          have hO112 : Own σ [] s108 [.obj id36 [u32, u34], .buf u106, .buf v97, .buf v90, .obj id74 [u70, u72]] := hO109.front 4 rfl rfl
          have hO113 : Own σ [] s108 [.buf u106, .obj id36 [u32, u34], .buf v97, .buf v90, .obj id74 [u70, u72]] := hO112.front 1 rfl rfl
          exact iterQ_again ⟨u106, s108, h107, (hO113.sub 2 rfl), (Le_fr ⟨rfl, ⟨rfl, ⟨rfl, ⟨rfl, ⟨rfl, ⟨rfl, ⟨rfl, ⟨rfl, ⟨rfl, ⟨rfl, trivial⟩⟩⟩⟩⟩⟩⟩⟩⟩⟩)⟩
        · skip
          replace hF := ite_f hc60 hF
          with_unfolding_all refine TE_exit ?_
          with_unfolding_all refine thenQ_exit ?_
          obtain rfl := some_s hF
          have hO114 : Own σ [] s48 [.obj id36 [u32, u34], .buf u46] := hO49.front 1 rfl rfl
          have hO115 : Own σ [] s48 [.buf u46, .obj id36 [u32, u34]] := hO114.front 1 rfl rfl
          exact iterQ_exit (⟨rfl, u46, s48, h47, (hO115.sub 2 rfl), (Le_fr ⟨rfl, ⟨rfl, ⟨rfl, ⟨rfl, ⟨rfl, ⟨rfl, trivial⟩⟩⟩⟩⟩⟩)⟩)
      · skip
        rintro eq44 zq44 (⟨rfl, u51, s53, h52, hO54, hz116⟩)
        with_unfolding_all refine blockQ_out ?_
        with_unfolding_all refine blockQ_normal ?_
        with_unfolding_all refine thenQ_normal ?_
        refine TE_pre hz116 ?_
        with_unfolding_all refine TE_seqY ?_
        have hM117 := MB_none s53
        with_unfolding_all refine TX_ari rfl rfl rfl ?_
        with_unfolding_all refine TX_move rfl ?_
        with_unfolding_all refine TX_nil ?_
        obtain rfl := some_s hF
        exact iterQ_again ⟨u51, s53, h52, (hO54.sub 1 rfl), (Le_fr ⟨rfl, ⟨rfl, ⟨rfl, ⟨rfl, ⟨rfl, ⟨rfl, trivial⟩⟩⟩⟩⟩⟩)⟩
    · skip
      replace hF := ite_f hc22 hF
      with_unfolding_all refine TE_exit ?_
      with_unfolding_all refine thenQ_exit ?_
      obtain rfl := some_s hF
      exact iterQ_exit (⟨rfl, u8, s10, h9, (hO11.sub 1 rfl), (Le_fr ⟨rfl, ⟨rfl, ⟨rfl, trivial⟩⟩⟩)⟩)
  · skip
    rintro eq6 zq6 (⟨rfl, u13, s15, h14, hO16, hz118⟩)
    with_unfolding_all refine blockQ_out ?_
    with_unfolding_all refine thenQ_normal ?_
    refine TE_pre hz118 ?_
    with_unfolding_all refine TE_seq ?_
    with_unfolding_all refine TE_seqY ?_
    have hM119 := MB_none s15
    with_unfolding_all refine TX_move rfl ?_
    with_unfolding_all refine TX_move rfl ?_
    with_unfolding_all refine TY_len rfl rfl rfl rfl h0_ rfl ?_
    with_unfolding_all refine TX_move rfl ?_
    with_unfolding_all refine TY_len rfl rfl rfl rfl h1_ rfl ?_
    with_unfolding_all refine TX_ari rfl rfl rfl ?_
    with_unfolding_all refine TX_cmp rfl rfl rfl ?_
    with_unfolding_all refine TX_assign rfl ?_
    with_unfolding_all refine TX_assign rfl ?_
    with_unfolding_all refine TX_nil ?_
    with_unfolding_all refine thenQ_normal ?_
    with_unfolding_all refine TE_ret ?_
    obtain rfl := some_s hF
    exact done_any (vs := [u13, .bool ((decide ((IntKind.wrap .i64 ((x0_.length : Int) * (x1_.length : Int))) ≤ 400)))]) (.inr rfl) rfl (resR_tmp rfl (resR_tmp rfl resR_nil)) ⟨⟨_, _, rfl, h14, rfl⟩, hO16.ext⟩
theorem law12_not_ok {x0_ : (List match_Match)} {y : ((List match_Match) × Bool)} (hF : F.law12_not x0_ = some y) {v0_ : AV} {σ : Mem} (h0_ : (RS e_match_Match) v0_ x0_)  :
    CallE Try.prog 22 [v0_] σ (fun v σ' => (R2 (RS e_match_Match) eB.rel) v y ∧ Ext σ σ') := by
  unfold F.law12_not at hF
  refine CallE_of Try.func22 rfl Try.ntmps22 (by simp) ?_
  have hO0 := Own.start σ
  with_unfolding_all refine TE_seq ?_
  with_unfolding_all refine TE_seqY ?_
  have hM1 := MB_none σ
  with_unfolding_all refine TX_assign rfl ?_
  with_unfolding_all refine TX_assign rfl ?_
  with_unfolding_all refine TX_nil ?_
  with_unfolding_all refine thenQ_normal ?_
  with_unfolding_all refine TE_seq ?_
  with_unfolding_all refine TE_seqY ?_
  have hM2 := MB_none σ
  with_unfolding_all refine TY_build [.nils, .nils] rfl rfl rfl (by with_unfolding_all exact Fill.nil _) (by with_unfolding_all rfl) ?_
  have h3 : All2 e_match_Match.rel ([.agg [.nils, .nils]] : List AV) ([(F.match_Match.mk [] [])] : (List match_Match)) := ⟨⟨.nils, .nils, rfl, (RS.nil e_match_Span), (RS.nil e_match_Span)⟩, trivial⟩
  with_unfolding_all refine TY_buildSlice rfl rfl rfl rfl rfl h3 rfl (by decide) (by with_unfolding_all exact Nat.le_of_ble_eq_true rfl) ?_
  have h4 : RS e_match_Match (.sl [.agg [.nils, .nils]] .full) ([(F.match_Match.mk [] [])] : (List match_Match)) := RS.of h3
  with_unfolding_all refine TX_assign rfl ?_
  with_unfolding_all refine TX_nil ?_
  with_unfolding_all refine thenQ_normal ?_
  with_unfolding_all refine TE_seq ?_
  with_unfolding_all refine TE_seq ?_
  with_unfolding_all refine TE_seqY ?_
  have hM5 := MB_none σ
  with_unfolding_all refine TX_move rfl ?_
  with_unfolding_all refine TY_len rfl rfl rfl rfl h0_ rfl ?_
  with_unfolding_all refine TX_move rfl ?_
  with_unfolding_all refine TX_nil ?_
  with_unfolding_all refine thenQ_normal ?_
  with_unfolding_all refine TE_block ?_
  obtain ⟨a18, h19, hF⟩ := bind_s hF
  refine TE_iter (f := F.law12_not_s1 x0_) (s0 := (([(F.match_Match.mk [] [])] : (List match_Match)), 0)) (a := a18) (fun (q6 : ((List match_Match) × Int)) z => ∃ (u8 : AV) (s10 : Mem), RS e_match_Match u8 q6.1 ∧ Own σ [] s10 [] ∧ Le z ⟨fr 62 [(4, u8), (16, v0_), (17, .int .i64 ((x0_.length : Int))), (18, .int .i64 (q6.2))], [], s10⟩) (fun (a : ((List match_Match) ⊕ ((List match_Match) × Bool))) e z => (∃ p12 : (List match_Match), a = (.inl p12) ∧ e = .exit 0 ∧ ∃ (u13 : AV) (s15 : Mem), RS e_match_Match u13 p12 ∧ Own σ [] s15 [] ∧ Le z ⟨fr 62 [(4, u13)], [], s15⟩) ∨ (∃ p17 : ((List match_Match) × Bool), a = (.inr (p17)) ∧ e = .ret ∧ doneQ Try.prog Try.f22 (fun v σ' => (R2 (RS e_match_Match) eB.rel) v p17 ∧ Ext σ σ') .ret z)) h19 ?_ ?_ ?_
  · skip
    exact ⟨(.sl [.agg [.nils, .nils]] .full), σ, h4, (hO0.sub 0 rfl), (Le_fr ⟨rfl, ⟨rfl, ⟨rfl, ⟨rfl, trivial⟩⟩⟩⟩)⟩
  · skip
    clear hF
    rintro q6 zq6 r7 ⟨u8, s10, h9, hO11, hz20⟩ hF
    unfold F.law12_not_s1 at hF
    refine TE_pre hz20 ?_
    with_unfolding_all refine TE_seq ?_
    with_unfolding_all refine TE_seqY ?_
    have hM21 := MB_none s10
    with_unfolding_all refine TX_cmp rfl rfl rfl ?_
    with_unfolding_all refine TX_nil ?_
    with_unfolding_all refine thenQ_normal ?_
    with_unfolding_all refine TE_seq ?_
    with_unfolding_all refine TE_cond rfl (fun hc22 => ?_) (fun hc22 => ?_)
    · skip
      replace hF := ite_t hc22 hF
      with_unfolding_all refine TE_skip ?_
      with_unfolding_all refine thenQ_normal ?_
      with_unfolding_all refine TE_seq ?_
      with_unfolding_all refine TE_block ?_
      with_unfolding_all refine TE_seq ?_
      obtain ⟨x23, h24, hF⟩ := bind_s hF
      with_unfolding_all refine TE_seqY ?_
      have hM29 := MB_none s10
      with_unfolding_all refine TY_idx (E := e_match_Match) rfl rfl rfl h0_ rfl h24 ?_
      intro u30 h31
      obtain ⟨u32, u34, rfl, h33, h35⟩ := h31
      with_unfolding_all refine TX_load_c rfl rfl ?_
      with_unfolding_all refine TY_alloc hO11 hM29 rfl rfl ?_
      rintro id36 s37 (hO38 : Own σ [] s37 [.obj id36 [.nils, .nils]]) hM39
      with_unfolding_all refine TY_store (v := .agg [u32, u34]) (vc := [u32, u34]) hO38 hM39 (MNe.none _) rfl rfl rfl rfl (by with_unfolding_all exact Nat.le_of_ble_eq_true rfl) (ones_cons (RS.one1 h33) (ones_cons (RS.one1 h35) ones_nil)) rfl ?_
      rintro s40 (hO41 : Own σ [] s40 [.obj id36 [u32, u34]]) hM42
      with_unfolding_all refine TX_nil ?_
      with_unfolding_all refine thenQ_normal ?_
      with_unfolding_all refine TE_seq ?_
      with_unfolding_all refine TE_seqY ?_
      have hM43 := MB_none s40
      have h44 : All2 e_match_Match.rel ([] : List AV) ([] : (List match_Match)) := trivial
      with_unfolding_all refine TY_buildSlice rfl rfl rfl rfl rfl h44 rfl (by decide) (by with_unfolding_all exact Nat.le_of_ble_eq_true rfl) ?_
      have h45 : RS e_match_Match (.sl [] .full) ([] : (List match_Match)) := RS.of h44
      with_unfolding_all refine TX_assign rfl ?_
      with_unfolding_all refine TX_nil ?_
      with_unfolding_all refine thenQ_normal ?_
      with_unfolding_all refine TE_seq ?_
      with_unfolding_all refine TE_seq ?_
      with_unfolding_all refine TE_seqY ?_
      have hM46 := MB_none s40
      with_unfolding_all refine TX_fieldAddr_p rfl rfl rfl ?_
      with_unfolding_all refine TX_load_p rfl (MC_none (hO41.obj 0 rfl)) rfl ?_
      with_unfolding_all refine TY_len rfl rfl rfl rfl h33 rfl ?_
      with_unfolding_all refine TX_move rfl ?_
      with_unfolding_all refine TX_nil ?_
      with_unfolding_all refine thenQ_normal ?_
      with_unfolding_all refine TE_block ?_
      obtain ⟨p53, h59, hF⟩ := bind_s hF
      refine TE_iter (f := F.law12_not_s2 x23) (s0 := (([] : (List match_Match)), 0)) (a := p53) (fun (q47 : ((List match_Match) × Int)) z => ∃ (u49 : AV) (s51 : Mem), RS e_match_Match u49 q47.1 ∧ Own σ [] s51 [.buf u49, .obj id36 [u32, u34]] ∧ Le z ⟨fr 62 [(4, u8), (6, .ptr id36 0), (7, u49), (16, v0_), (17, .int .i64 ((x0_.length : Int))), (18, .int .i64 (q6.2)), (24, u32), (25, .int .i64 ((x23.In.length : Int))), (26, .int .i64 (q47.2))], [], s51⟩) (fun (p53 : (List match_Match)) e z => (e = .exit 2 ∧ ∃ (u54 : AV) (s56 : Mem), RS e_match_Match u54 p53 ∧ Own σ [] s56 [.buf u54, .obj id36 [u32, u34]] ∧ Le z ⟨fr 62 [(4, u8), (6, .ptr id36 0), (7, u54), (16, v0_), (17, .int .i64 ((x0_.length : Int))), (18, .int .i64 (q6.2))], [], s56⟩)) h59 ?_ ?_ ?_
      · skip
        have hO60 : Own σ [] s40 [.buf (.sl [] .full), .obj id36 [u32, u34]] := hO41.bufFull []
        have hO61 : Own σ [] s40 [.obj id36 [u32, u34], .buf (.sl [] .full)] := hO60.front 1 rfl rfl
        have hO62 : Own σ [] s40 [.buf (.sl [] .full), .obj id36 [u32, u34]] := hO61.front 1 rfl rfl
        exact ⟨(.sl [] .full), s40, h45, (hO62.sub 2 rfl), (Le_fr ⟨rfl, ⟨rfl, ⟨rfl, ⟨rfl, ⟨rfl, ⟨rfl, ⟨rfl, ⟨rfl, ⟨rfl, trivial⟩⟩⟩⟩⟩⟩⟩⟩⟩)⟩
      · skip
        clear hF
        rintro q47 zq47 r48 ⟨u49, s51, h50, hO52, hz63⟩ hF
        unfold F.law12_not_s2 at hF
        refine TE_pre hz63 ?_
        with_unfolding_all refine TE_seq ?_
        with_unfolding_all refine TE_seqY ?_
        have hM64 := MB_none s51
        with_unfolding_all refine TX_cmp rfl rfl rfl ?_
        with_unfolding_all refine TX_nil ?_
        with_unfolding_all refine thenQ_normal ?_
        with_unfolding_all refine TE_seq ?_
        with_unfolding_all refine TE_cond rfl (fun hc65 => ?_) (fun hc65 => ?_)
        · skip
          replace hF := ite_t hc65 hF
          with_unfolding_all refine TE_skip ?_
          with_unfolding_all refine thenQ_normal ?_
          with_unfolding_all refine TE_seq ?_
          with_unfolding_all refine TE_block ?_
          with_unfolding_all refine TE_seq ?_
          obtain ⟨x66, h67, hF⟩ := bind_s hF
          with_unfolding_all refine TE_seqY ?_
          have hM68 := MB_none s51
          with_unfolding_all refine TY_idx (E := e_match_Span) rfl rfl rfl h33 rfl h67 ?_
          intro u69 h70
          obtain rfl := h70
          with_unfolding_all refine TX_load_c rfl rfl ?_
          with_unfolding_all refine TY_alloc hO52 hM68 rfl rfl ?_
          rintro id71 s72 (hO73 : Own σ [] s72 [.obj id71 [.int .i64 (0), .int .i64 (0), .int .i64 (0), .int .i64 (0)], .buf u49, .obj id36 [u32, u34]]) hM74
          with_unfolding_all refine TY_store (v := .agg [.int .i64 (x66.From), .int .i64 (x66.To), .int .i64 (x66.Part), .int .i64 (x66.Weight)]) (vc := [.int .i64 (x66.From), .int .i64 (x66.To), .int .i64 (x66.Part), .int .i64 (x66.Weight)]) hO73 hM74 (MNe.none _) rfl rfl rfl rfl (by with_unfolding_all exact Nat.le_of_ble_eq_true rfl) (ones_cons rfl (ones_cons rfl (ones_cons rfl (ones_cons rfl ones_nil)))) rfl ?_
          rintro s75 (hO76 : Own σ [] s75 [.obj id71 [.int .i64 (x66.From), .int .i64 (x66.To), .int .i64 (x66.Part), .int .i64 (x66.Weight)], .buf u49, .obj id36 [u32, u34]]) hM77
          with_unfolding_all refine TX_nil ?_
          with_unfolding_all refine thenQ_normal ?_
          obtain ⟨x78, h79, hF⟩ := bind_s hF
          with_unfolding_all refine TE_seqY ?_
          have hM80 := MB_none s75
          with_unfolding_all refine TX_move rfl ?_
          with_unfolding_all refine TX_load_p rfl (MC_none (hO76.obj 0 rfl)) rfl ?_
          have h81 : All2 e_match_Span.rel ([.agg [.int .i64 (x66.From), .int .i64 (x66.To), .int .i64 (x66.Part), .int .i64 (x66.Weight)]] : List AV) ([x66] : (List match_Span)) := ⟨rfl, trivial⟩
          with_unfolding_all refine TY_buildSlice rfl rfl rfl rfl rfl h81 rfl (by decide) (by with_unfolding_all exact Nat.le_of_ble_eq_true rfl) ?_
          have h82 : RS e_match_Span (.sl [.agg [.int .i64 (x66.From), .int .i64 (x66.To), .int .i64 (x66.Part), .int .i64 (x66.Weight)]] .full) ([x66] : (List match_Span)) := RS.of h81
          with_unfolding_all refine TY_build [.nils, (.sl [.agg [.int .i64 (x66.From), .int .i64 (x66.To), .int .i64 (x66.Part), .int .i64 (x66.Weight)]] .full)] rfl rfl rfl (by with_unfolding_all exact Fill.cons rfl (RS.cells h82) rfl (by with_unfolding_all exact Nat.le_of_ble_eq_true rfl) (Fill.nil _)) (by with_unfolding_all rfl) ?_
          have h83 : All2 e_match_Match.rel ([.agg [.nils, (.sl [.agg [.int .i64 (x66.From), .int .i64 (x66.To), .int .i64 (x66.Part), .int .i64 (x66.Weight)]] .full)]] : List AV) ([(F.match_Match.mk [] ([x66] : (List match_Span)))] : (List match_Match)) := ⟨⟨.nils, (.sl [.agg [.int .i64 (x66.From), .int .i64 (x66.To), .int .i64 (x66.Part), .int .i64 (x66.Weight)]] .full), rfl, (RS.nil e_match_Span), h82⟩, trivial⟩
          with_unfolding_all refine TY_buildSlice rfl rfl rfl rfl rfl h83 rfl (by decide) (by with_unfolding_all exact Nat.le_of_ble_eq_true rfl) ?_
          have h84 : RS e_match_Match (.sl [.agg [.nils, (.sl [.agg [.int .i64 (x66.From), .int .i64 (x66.To), .int .i64 (x66.Part), .int .i64 (x66.Weight)]] .full)]] .full) ([(F.match_Match.mk [] ([x66] : (List match_Span)))] : (List match_Match)) := RS.of h83
          have hO85 : Own σ [] s75 [.buf u49, .obj id71 [.int .i64 (x66.From), .int .i64 (x66.To), .int .i64 (x66.Part), .int .i64 (x66.Weight)], .obj id36 [u32, u34]] := hO76.front 1 rfl rfl
          with_unfolding_all refine TY_append appT22_22 hO85 hM80 rfl rfl rfl rfl h50 rfl h84 h79 ?_
          rintro u86 s88 (h87 : RS e_match_Match u86 x78) (hO89 : Own σ [] s88 [.buf u86, .obj id71 [.int .i64 (x66.From), .int .i64 (x66.To), .int .i64 (x66.Part), .int .i64 (x66.Weight)], .obj id36 [u32, u34]]) hM90
          with_unfolding_all refine TX_assign rfl ?_
          with_unfolding_all refine TX_nil ?_
          with_unfolding_all refine blockQ_normal ?_
          with_unfolding_all refine thenQ_normal ?_
          with_unfolding_all refine TE_seqY ?_
          have hM91 := MB_none s88
          with_unfolding_all refine TX_ari rfl rfl rfl ?_
          with_unfolding_all refine TX_move rfl ?_
          with_unfolding_all refine TX_nil ?_
          obtain rfl := some_s hF
          have hO92 : Own σ [] s88 [.obj id36 [u32, u34], .buf u86, .obj id71 [.int .i64 (x66.From), .int .i64 (x66.To), .int .i64 (x66.Part), .int .i64 (x66.Weight)]] := hO89.front 2 rfl rfl
          have hO93 : Own σ [] s88 [.buf u86, .obj id36 [u32, u34], .obj id71 [.int .i64 (x66.From), .int .i64 (x66.To), .int .i64 (x66.Part), .int .i64 (x66.Weight)]] := hO92.front 1 rfl rfl
          exact iterQ_again ⟨u86, s88, h87, (hO93.sub 2 rfl), (Le_fr ⟨rfl, ⟨rfl, ⟨rfl, ⟨rfl, ⟨rfl, ⟨rfl, ⟨rfl, ⟨rfl, ⟨rfl, trivial⟩⟩⟩⟩⟩⟩⟩⟩⟩)⟩
        · skip
          replace hF := ite_f hc65 hF
          with_unfolding_all refine TE_exit ?_
          with_unfolding_all refine thenQ_exit ?_
          obtain rfl := some_s hF
          have hO94 : Own σ [] s51 [.obj id36 [u32, u34], .buf u49] := hO52.front 1 rfl rfl
          have hO95 : Own σ [] s51 [.buf u49, .obj id36 [u32, u34]] := hO94.front 1 rfl rfl
          exact iterQ_exit (⟨rfl, u49, s51, h50, (hO95.sub 2 rfl), (Le_fr ⟨rfl, ⟨rfl, ⟨rfl, ⟨rfl, ⟨rfl, ⟨rfl, trivial⟩⟩⟩⟩⟩⟩)⟩)
      · skip
        rintro eq47 zq47 (⟨rfl, u54, s56, h55, hO57, hz96⟩)
        with_unfolding_all refine blockQ_out ?_
        with_unfolding_all refine thenQ_normal ?_
        refine TE_pre hz96 ?_
        with_unfolding_all refine TE_seq ?_
        with_unfolding_all refine TE_seq ?_
        with_unfolding_all refine TE_seqY ?_
        have hM97 := MB_none s56
        with_unfolding_all refine TX_fieldAddr_p rfl rfl rfl ?_
        with_unfolding_all refine TX_load_p rfl (MC_none (hO57.obj 1 rfl)) rfl ?_
        with_unfolding_all refine TY_len rfl rfl rfl rfl h35 rfl ?_
        with_unfolding_all refine TX_move rfl ?_
        with_unfolding_all refine TX_nil ?_
        with_unfolding_all refine thenQ_normal ?_
        with_unfolding_all refine TE_block ?_
        obtain ⟨p104, h110, hF⟩ := bind_s hF
        refine TE_iter (f := F.law12_not_s3 x23) (s0 := (p53, 0)) (a := p104) (fun (q98 : ((List match_Match) × Int)) z => ∃ (u100 : AV) (s102 : Mem), RS e_match_Match u100 q98.1 ∧ Own σ [] s102 [.buf u100, .obj id36 [u32, u34]] ∧ Le z ⟨fr 62 [(4, u8), (7, u100), (16, v0_), (17, .int .i64 ((x0_.length : Int))), (18, .int .i64 (q6.2)), (38, u34), (39, .int .i64 ((x23.Out.length : Int))), (40, .int .i64 (q98.2))], [], s102⟩) (fun (p104 : (List match_Match)) e z => (e = .exit 4 ∧ ∃ (u105 : AV) (s107 : Mem), RS e_match_Match u105 p104 ∧ Own σ [] s107 [.buf u105, .obj id36 [u32, u34]] ∧ Le z ⟨fr 62 [(4, u8), (7, u105), (16, v0_), (17, .int .i64 ((x0_.length : Int))), (18, .int .i64 (q6.2))], [], s107⟩)) h110 ?_ ?_ ?_
        · skip
          have hO111 : Own σ [] s56 [.obj id36 [u32, u34], .buf u54] := hO57.front 1 rfl rfl
          have hO112 : Own σ [] s56 [.buf u54, .obj id36 [u32, u34]] := hO111.front 1 rfl rfl
          exact ⟨u54, s56, h55, (hO112.sub 2 rfl), (Le_fr ⟨rfl, ⟨rfl, ⟨rfl, ⟨rfl, ⟨rfl, ⟨rfl, ⟨rfl, ⟨rfl, trivial⟩⟩⟩⟩⟩⟩⟩⟩)⟩
        · skip
          clear hF
          rintro q98 zq98 r99 ⟨u100, s102, h101, hO103, hz113⟩ hF
          unfold F.law12_not_s3 at hF
          refine TE_pre hz113 ?_
          with_unfolding_all refine TE_seq ?_
          with_unfolding_all refine TE_seqY ?_
          have hM114 := MB_none s102
          with_unfolding_all refine TX_cmp rfl rfl rfl ?_
          with_unfolding_all refine TX_nil ?_
          with_unfolding_all refine thenQ_normal ?_
          with_unfolding_all refine TE_seq ?_
          with_unfolding_all refine TE_cond rfl (fun hc115 => ?_) (fun hc115 => ?_)
          · skip
            replace hF := ite_t hc115 hF
            with_unfolding_all refine TE_skip ?_
            with_unfolding_all refine thenQ_normal ?_
            with_unfolding_all refine TE_seq ?_
            with_unfolding_all refine TE_block ?_
            with_unfolding_all refine TE_seq ?_
            obtain ⟨x116, h117, hF⟩ := bind_s hF
            with_unfolding_all refine TE_seqY ?_
            have hM118 := MB_none s102
            with_unfolding_all refine TY_idx (E := e_match_Span) rfl rfl rfl h35 rfl h117 ?_
            intro u119 h120
            obtain rfl := h120
            with_unfolding_all refine TX_load_c rfl rfl ?_
            with_unfolding_all refine TY_alloc hO103 hM118 rfl rfl ?_
            rintro id121 s122 (hO123 : Own σ [] s122 [.obj id121 [.int .i64 (0), .int .i64 (0), .int .i64 (0), .int .i64 (0)], .buf u100, .obj id36 [u32, u34]]) hM124
            with_unfolding_all refine TY_store (v := .agg [.int .i64 (x116.From), .int .i64 (x116.To), .int .i64 (x116.Part), .int .i64 (x116.Weight)]) (vc := [.int .i64 (x116.From), .int .i64 (x116.To), .int .i64 (x116.Part), .int .i64 (x116.Weight)]) hO123 hM124 (MNe.none _) rfl rfl rfl rfl (by with_unfolding_all exact Nat.le_of_ble_eq_true rfl) (ones_cons rfl (ones_cons rfl (ones_cons rfl (ones_cons rfl ones_nil)))) rfl ?_
            rintro s125 (hO126 : Own σ [] s125 [.obj id121 [.int .i64 (x116.From), .int .i64 (x116.To), .int .i64 (x116.Part), .int .i64 (x116.Weight)], .buf u100, .obj id36 [u32, u34]]) hM127
            with_unfolding_all refine TX_nil ?_
            with_unfolding_all refine thenQ_normal ?_
            obtain ⟨x128, h129, hF⟩ := bind_s hF
            with_unfolding_all refine TE_seqY ?_
            have hM130 := MB_none s125
            with_unfolding_all refine TX_move rfl ?_
            with_unfolding_all refine TX_load_p rfl (MC_none (hO126.obj 0 rfl)) rfl ?_
            have h131 : All2 e_match_Span.rel ([.agg [.int .i64 (x116.From), .int .i64 (x116.To), .int .i64 (x116.Part), .int .i64 (x116.Weight)]] : List AV) ([x116] : (List match_Span)) := ⟨rfl, trivial⟩
            with_unfolding_all refine TY_buildSlice rfl rfl rfl rfl rfl h131 rfl (by decide) (by with_unfolding_all exact Nat.le_of_ble_eq_true rfl) ?_
            have h132 : RS e_match_Span (.sl [.agg [.int .i64 (x116.From), .int .i64 (x116.To), .int .i64 (x116.Part), .int .i64 (x116.Weight)]] .full) ([x116] : (List match_Span)) := RS.of h131
            with_unfolding_all refine TY_build [(.sl [.agg [.int .i64 (x116.From), .int .i64 (x116.To), .int .i64 (x116.Part), .int .i64 (x116.Weight)]] .full), .nils] rfl rfl rfl (by with_unfolding_all exact Fill.cons rfl (RS.cells h132) rfl (by with_unfolding_all exact Nat.le_of_ble_eq_true rfl) (Fill.nil _)) (by with_unfolding_all rfl) ?_
            have h133 : All2 e_match_Match.rel ([.agg [(.sl [.agg [.int .i64 (x116.From), .int .i64 (x116.To), .int .i64 (x116.Part), .int .i64 (x116.Weight)]] .full), .nils]] : List AV) ([(F.match_Match.mk ([x116] : (List match_Span)) [])] : (List match_Match)) := ⟨⟨(.sl [.agg [.int .i64 (x116.From), .int .i64 (x116.To), .int .i64 (x116.Part), .int .i64 (x116.Weight)]] .full), .nils, rfl, h132, (RS.nil e_match_Span)⟩, trivial⟩
            with_unfolding_all refine TY_buildSlice rfl rfl rfl rfl rfl h133 rfl (by decide) (by with_unfolding_all exact Nat.le_of_ble_eq_true rfl) ?_
            have h134 : RS e_match_Match (.sl [.agg [(.sl [.agg [.int .i64 (x116.From), .int .i64 (x116.To), .int .i64 (x116.Part), .int .i64 (x116.Weight)]] .full), .nils]] .full) ([(F.match_Match.mk ([x116] : (List match_Span)) [])] : (List match_Match)) := RS.of h133
            have hO135 : Own σ [] s125 [.buf u100, .obj id121 [.int .i64 (x116.From), .int .i64 (x116.To), .int .i64 (x116.Part), .int .i64 (x116.Weight)], .obj id36 [u32, u34]] := hO126.front 1 rfl rfl
            with_unfolding_all refine TY_append appT22_22 hO135 hM130 rfl rfl rfl rfl h101 rfl h134 h129 ?_
            rintro u136 s138 (h137 : RS e_match_Match u136 x128) (hO139 : Own σ [] s138 [.buf u136, .obj id121 [.int .i64 (x116.From), .int .i64 (x116.To), .int .i64 (x116.Part), .int .i64 (x116.Weight)], .obj id36 [u32, u34]]) hM140
            with_unfolding_all refine TX_assign rfl ?_
            with_unfolding_all refine TX_nil ?_
            with_unfolding_all refine blockQ_normal ?_
            with_unfolding_all refine thenQ_normal ?_
            with_unfolding_all refine TE_seqY ?_
            have hM141 := MB_none s138
            with_unfolding_all refine TX_ari rfl rfl rfl ?_
            with_unfolding_all refine TX_move rfl ?_
            with_unfolding_all refine TX_nil ?_
            obtain rfl := some_s hF
            have hO142 : Own σ [] s138 [.obj id36 [u32, u34], .buf u136, .obj id121 [.int .i64 (x116.From), .int .i64 (x116.To), .int .i64 (x116.Part), .int .i64 (x116.Weight)]] := hO139.front 2 rfl rfl
            have hO143 : Own σ [] s138 [.buf u136, .obj id36 [u32, u34], .obj id121 [.int .i64 (x116.From), .int .i64 (x116.To), .int .i64 (x116.Part), .int .i64 (x116.Weight)]] := hO142.front 1 rfl rfl
            exact iterQ_again ⟨u136, s138, h137, (hO143.sub 2 rfl), (Le_fr ⟨rfl, ⟨rfl, ⟨rfl, ⟨rfl, ⟨rfl, ⟨rfl, ⟨rfl, ⟨rfl, trivial⟩⟩⟩⟩⟩⟩⟩⟩)⟩
          · skip
            replace hF := ite_f hc115 hF
            with_unfolding_all refine TE_exit ?_
            with_unfolding_all refine thenQ_exit ?_
            obtain rfl := some_s hF
            have hO144 : Own σ [] s102 [.obj id36 [u32, u34], .buf u100] := hO103.front 1 rfl rfl
            have hO145 : Own σ [] s102 [.buf u100, .obj id36 [u32, u34]] := hO144.front 1 rfl rfl
            exact iterQ_exit (⟨rfl, u100, s102, h101, (hO145.sub 2 rfl), (Le_fr ⟨rfl, ⟨rfl, ⟨rfl, ⟨rfl, ⟨rfl, trivial⟩⟩⟩⟩⟩)⟩)
        · skip
          rintro eq98 zq98 (⟨rfl, u105, s107, h106, hO108, hz146⟩)
          with_unfolding_all refine blockQ_out ?_
          with_unfolding_all refine thenQ_normal ?_
          refine TE_pre hz146 ?_
          with_unfolding_all refine TE_seq ?_
          obtain ⟨x147, h148, hF⟩ := bind_s hF
          with_unfolding_all refine TE_seqY ?_
          have hM149 := MB_none s107
          with_unfolding_all refine TX_move rfl ?_
          with_unfolding_all refine TX_move rfl ?_
          have hc150 : CallE Try.prog 21 [u8, u105] s107 _ := law12_and_ok h148 h9 h106
          with_unfolding_all refine TY_call hM149 rfl en21 hc150 ?_
          intro v151 s155 hv152 hX153 hM154
          have hO156 := hO108.ext_call hX153
          obtain ⟨v157, v158, rfl, h159, h160⟩ := hv152
          obtain rfl := h160
          with_unfolding_all refine TX_move rfl ?_
          with_unfolding_all refine TX_extract rfl rfl ?_
          with_unfolding_all refine TX_extract rfl rfl ?_
          with_unfolding_all refine TX_assign rfl ?_
          with_unfolding_all refine TX_assign rfl ?_
          with_unfolding_all refine TX_nil ?_
          with_unfolding_all refine thenQ_normal ?_
          with_unfolding_all refine TE_seq ?_
          with_unfolding_all refine TE_seq ?_
          with_unfolding_all refine TE_seqY ?_
          have hM161 := MB_none s155
          with_unfolding_all refine TX_move rfl ?_
          with_unfolding_all refine TX_not rfl ?_
          with_unfolding_all refine TX_nil ?_
          with_unfolding_all refine thenQ_normal ?_
          with_unfolding_all refine TE_cond rfl (fun hc162 => ?_) (fun hc162 => ?_)
          · skip
            replace hF := ite_t hc162 hF
            with_unfolding_all refine TE_seq ?_
            with_unfolding_all refine TE_seqY ?_
            have hM163 := MB_none s155
            with_unfolding_all refine TX_assign rfl ?_
            with_unfolding_all refine TX_assign rfl ?_
            with_unfolding_all refine TX_nil ?_
            with_unfolding_all refine thenQ_normal ?_
            with_unfolding_all refine TE_ret ?_
            with_unfolding_all refine thenQ_ret ?_
            with_unfolding_all refine blockQ_ret ?_
            with_unfolding_all refine thenQ_ret ?_
            obtain rfl := some_s hF
            exact iterQ_ret (.inr <| ⟨_, rfl, rfl, (done_any (vs := [.nils, .bool (false)]) (.inr rfl) rfl (resR_tmp rfl (resR_tmp rfl resR_nil)) ⟨⟨_, _, rfl, (RS.nil e_match_Match), rfl⟩, hO156.ext⟩)⟩)
          · skip
            replace hF := ite_f hc162 hF
            with_unfolding_all refine TE_skip ?_
            with_unfolding_all refine thenQ_normal ?_
            with_unfolding_all refine TE_seqY ?_
            have hM164 := MB_none s155
            with_unfolding_all refine TX_move rfl ?_
            with_unfolding_all refine TX_assign rfl ?_
            with_unfolding_all refine TX_nil ?_
            with_unfolding_all refine blockQ_normal ?_
            with_unfolding_all refine thenQ_normal ?_
            with_unfolding_all refine TE_seqY ?_
            have hM165 := MB_none s155
            with_unfolding_all refine TX_ari rfl rfl rfl ?_
            with_unfolding_all refine TX_move rfl ?_
            with_unfolding_all refine TX_nil ?_
            obtain rfl := some_s hF
            exact iterQ_again ⟨v157, s155, h159, (hO156.sub 0 rfl), (Le_fr ⟨rfl, ⟨rfl, ⟨rfl, ⟨rfl, trivial⟩⟩⟩⟩)⟩
    · skip
      replace hF := ite_f hc22 hF
      with_unfolding_all refine TE_exit ?_
      with_unfolding_all refine thenQ_exit ?_
      obtain rfl := some_s hF
      exact iterQ_exit (.inl <| ⟨_, rfl, rfl, u8, s10, h9, (hO11.sub 0 rfl), (Le_fr ⟨rfl, trivial⟩)⟩)
  · skip
    rintro eq6 zq6 (⟨p12, rfl, rfl, u13, s15, h14, hO16, hz166⟩ | ⟨p17, rfl, rfl, hdp17⟩)
    · skip
      try dsimp only at hF
      with_unfolding_all refine blockQ_out ?_
      with_unfolding_all refine thenQ_normal ?_
      refine TE_pre hz166 ?_
      with_unfolding_all refine TE_seq ?_
      with_unfolding_all refine TE_seqY ?_
      have hM167 := MB_none s15
      with_unfolding_all refine TX_move rfl ?_
      with_unfolding_all refine TX_assign rfl ?_
      with_unfolding_all refine TX_assign rfl ?_
      with_unfolding_all refine TX_nil ?_
      with_unfolding_all refine thenQ_normal ?_
      with_unfolding_all refine TE_ret ?_
      obtain rfl := some_s hF
      exact done_any (vs := [u13, .bool (true)]) (.inr rfl) rfl (resR_tmp rfl (resR_tmp rfl resR_nil)) ⟨⟨_, _, rfl, h14, rfl⟩, hO16.ext⟩
    · skip
      try dsimp only at hF
      with_unfolding_all refine blockQ_ret ?_
      with_unfolding_all refine thenQ_ret ?_
      obtain rfl := some_s hF
      exact hdp17
theorem law12_MatchJoins_1_ok {x0_ : (List match_Match)} {y : Bool} (hF : F.law12_MatchJoins_1 x0_ = some y) {v0_ : AV} {σ : Mem} (h0_ : (RS e_match_Match) v0_ x0_)  :
    CallE Try.prog 23 [v0_] σ (fun v σ' => eB.rel v y ∧ Ext σ σ') := by
  unfold F.law12_MatchJoins_1 at hF
  refine CallE_of Try.func23 rfl Try.ntmps23 (by simp) ?_
  have hO0 := Own.start σ
  with_unfolding_all refine TE_seq ?_
  with_unfolding_all refine TE_seqY ?_
  have hM1 := MB_none σ
  with_unfolding_all refine TX_assign rfl ?_
  with_unfolding_all refine TX_nil ?_
  with_unfolding_all refine thenQ_normal ?_
  with_unfolding_all refine TE_seq ?_
  with_unfolding_all refine TE_seq ?_
  with_unfolding_all refine TE_seqY ?_
  have hM2 := MB_none σ
  with_unfolding_all refine TX_move rfl ?_
  with_unfolding_all refine TY_len rfl rfl rfl rfl h0_ rfl ?_
  with_unfolding_all refine TX_move rfl ?_
  with_unfolding_all refine TX_nil ?_
  with_unfolding_all refine thenQ_normal ?_
  with_unfolding_all refine TE_block ?_
  obtain ⟨a11, h12, hF⟩ := bind_s hF
  refine TE_iter (f := F.law12_MatchJoins_1_s1 x0_) (s0 := 0) (a := a11) (fun (q3 : Int) z => ∃ (s5 : Mem), Own σ [] s5 [] ∧ Le z ⟨fr 16 [(5, v0_), (6, .int .i64 ((x0_.length : Int))), (7, .int .i64 (q3))], [], s5⟩) (fun (a : (Unit ⊕ Bool)) e z => (∃ p7 : Unit, a = (.inl p7) ∧ e = .exit 0 ∧ ∃ (s8 : Mem), Own σ [] s8 [] ∧ Le z ⟨fr 16 [], [], s8⟩) ∨ (∃ p10 : Bool, a = (.inr (p10)) ∧ e = .ret ∧ doneQ Try.prog Try.f23 (fun v σ' => eB.rel v p10 ∧ Ext σ σ') .ret z)) h12 ?_ ?_ ?_
  · skip
    exact ⟨σ, (hO0.sub 0 rfl), (Le_fr ⟨rfl, ⟨rfl, ⟨rfl, trivial⟩⟩⟩)⟩
  · skip
    clear hF
    rintro q3 zq3 r4 ⟨s5, hO6, hz13⟩ hF
    unfold F.law12_MatchJoins_1_s1 at hF
    refine TE_pre hz13 ?_
    with_unfolding_all refine TE_seq ?_
    with_unfolding_all refine TE_seqY ?_
    have hM14 := MB_none s5
    with_unfolding_all refine TX_cmp rfl rfl rfl ?_
    with_unfolding_all refine TX_nil ?_
    with_unfolding_all refine thenQ_normal ?_
    with_unfolding_all refine TE_seq ?_
    with_unfolding_all refine TE_cond rfl (fun hc15 => ?_) (fun hc15 => ?_)
    · skip
      replace hF := ite_t hc15 hF
      with_unfolding_all refine TE_skip ?_
      with_unfolding_all refine thenQ_normal ?_
      with_unfolding_all refine TE_seq ?_
      with_unfolding_all refine TE_block ?_
      with_unfolding_all refine TE_seq ?_
      obtain ⟨x16, h17, hF⟩ := bind_s hF
      with_unfolding_all refine TE_seqY ?_
      have hM22 := MB_none s5
      with_unfolding_all refine TY_idx (E := e_match_Match) rfl rfl rfl h0_ rfl h17 ?_
      intro u23 h24
      obtain ⟨u25, u27, rfl, h26, h28⟩ := h24
      with_unfolding_all refine TX_load_c rfl rfl ?_
      with_unfolding_all refine TY_alloc hO6 hM22 rfl rfl ?_
      rintro id29 s30 (hO31 : Own σ [] s30 [.obj id29 [.nils, .nils]]) hM32
      with_unfolding_all refine TY_store (v := .agg [u25, u27]) (vc := [u25, u27]) hO31 hM32 (MNe.none _) rfl rfl rfl rfl (by with_unfolding_all exact Nat.le_of_ble_eq_true rfl) (ones_cons (RS.one1 h26) (ones_cons (RS.one1 h28) ones_nil)) rfl ?_
      rintro s33 (hO34 : Own σ [] s33 [.obj id29 [u25, u27]]) hM35
      with_unfolding_all refine TX_nil ?_
      with_unfolding_all refine thenQ_normal ?_
      with_unfolding_all refine TE_seq ?_
      with_unfolding_all refine TE_seqY ?_
      have hM36 := MB_none s33
      with_unfolding_all refine TX_fieldAddr_p rfl rfl rfl ?_
      with_unfolding_all refine TX_load_p rfl (MC_none (hO34.obj 0 rfl)) rfl ?_
      with_unfolding_all refine TY_len rfl rfl rfl rfl h28 rfl ?_
      with_unfolding_all refine TX_cmp rfl rfl rfl ?_
      with_unfolding_all refine TX_nil ?_
      with_unfolding_all refine thenQ_normal ?_
      with_unfolding_all refine TE_cond rfl (fun hc37 => ?_) (fun hc37 => ?_)
      · skip
        replace hF := ite_t hc37 hF
        with_unfolding_all refine TE_seq ?_
        with_unfolding_all refine TE_seqY ?_
        have hM38 := MB_none s33
        with_unfolding_all refine TX_assign rfl ?_
        with_unfolding_all refine TX_nil ?_
        with_unfolding_all refine thenQ_normal ?_
        with_unfolding_all refine TE_ret ?_
        with_unfolding_all refine blockQ_ret ?_
        with_unfolding_all refine thenQ_ret ?_
        obtain rfl := some_s hF
        exact iterQ_ret (.inr <| ⟨_, rfl, rfl, (done_any (vs := [.bool (true)]) (.inr rfl) rfl (resR_tmp rfl resR_nil) ⟨rfl, hO34.ext⟩)⟩)
      · skip
        replace hF := ite_f hc37 hF
        with_unfolding_all refine TE_skip ?_
        with_unfolding_all refine blockQ_normal ?_
        with_unfolding_all refine thenQ_normal ?_
        with_unfolding_all refine TE_seqY ?_
        have hM39 := MB_none s33
        with_unfolding_all refine TX_ari rfl rfl rfl ?_
        with_unfolding_all refine TX_move rfl ?_
        with_unfolding_all refine TX_nil ?_
        obtain rfl := some_s hF
        exact iterQ_again ⟨s33, (hO34.sub 0 rfl), (Le_fr ⟨rfl, ⟨rfl, ⟨rfl, trivial⟩⟩⟩)⟩
    · skip
      replace hF := ite_f hc15 hF
      with_unfolding_all refine TE_exit ?_
      with_unfolding_all refine thenQ_exit ?_
      obtain rfl := some_s hF
      exact iterQ_exit (.inl <| ⟨_, rfl, rfl, s5, (hO6.sub 0 rfl), (Le_fr trivial)⟩)
  · skip
    rintro eq3 zq3 (⟨p7, rfl, rfl, s8, hO9, hz40⟩ | ⟨p10, rfl, rfl, hdp10⟩)
    · skip
      try dsimp only at hF
      with_unfolding_all refine blockQ_out ?_
      with_unfolding_all refine thenQ_normal ?_
      refine TE_pre hz40 ?_
      with_unfolding_all refine TE_seq ?_
      with_unfolding_all refine TE_seqY ?_
      have hM41 := MB_none s8
      with_unfolding_all refine TX_assign rfl ?_
      with_unfolding_all refine TX_nil ?_
      with_unfolding_all refine thenQ_normal ?_
      with_unfolding_all refine TE_ret ?_
      obtain rfl := some_s hF
      exact done_any (vs := [.bool (false)]) (.inr rfl) rfl (resR_tmp rfl resR_nil) ⟨rfl, hO9.ext⟩
    · skip
      try dsimp only at hF
      with_unfolding_all refine blockQ_ret ?_
      with_unfolding_all refine thenQ_ret ?_
      obtain rfl := some_s hF
      exact hdp10
theorem law12_spans_ok {x0_ : (List match_Span)} {x1_ : (List match_Span)} {y : Bool} (hF : F.law12_spans x0_ x1_ = some y) {v0_ : AV} {v1_ : AV} {σ : Mem} (h0_ : (RS e_match_Span) v0_ x0_) (h1_ : (RS e_match_Span) v1_ x1_)  :
    CallE Try.prog 53 [v0_, v1_] σ (fun v σ' => eB.rel v y ∧ Ext σ σ') := by
  unfold F.law12_spans at hF
  refine CallE_of Try.func53 rfl Try.ntmps53 (by simp) ?_
  have hO0 := Own.start σ
  with_unfolding_all refine TE_seq ?_
  with_unfolding_all refine TE_seqY ?_
  have hM1 := MB_none σ
  with_unfolding_all refine TX_assign rfl ?_
  with_unfolding_all refine TX_nil ?_
  with_unfolding_all refine thenQ_normal ?_
  with_unfolding_all refine TE_seq ?_
  with_unfolding_all refine TE_seq ?_
  with_unfolding_all refine TE_seqY ?_
  have hM2 := MB_none σ
  with_unfolding_all refine TX_move rfl ?_
  with_unfolding_all refine TY_len rfl rfl rfl rfl h0_ rfl ?_
  with_unfolding_all refine TX_move rfl ?_
  with_unfolding_all refine TY_len rfl rfl rfl rfl h1_ rfl ?_
  with_unfolding_all refine TX_cmp rfl rfl rfl ?_
  with_unfolding_all refine TX_nil ?_
  with_unfolding_all refine thenQ_normal ?_
  with_unfolding_all refine TE_cond rfl (fun hc3 => ?_) (fun hc3 => ?_)
  · skip
    replace hF := ite_t hc3 hF
    with_unfolding_all refine TE_seq ?_
    with_unfolding_all refine TE_seqY ?_
    have hM4 := MB_none σ
    with_unfolding_all refine TX_assign rfl ?_
    with_unfolding_all refine TX_nil ?_
    with_unfolding_all refine thenQ_normal ?_
    with_unfolding_all refine TE_ret ?_
    with_unfolding_all refine thenQ_ret ?_
    obtain rfl := some_s hF
    exact done_any (vs := [.bool (false)]) (.inr rfl) rfl (resR_tmp rfl resR_nil) ⟨rfl, hO0.ext⟩
  · skip
    replace hF := ite_f hc3 hF
    with_unfolding_all refine TE_skip ?_
    with_unfolding_all refine thenQ_normal ?_
    with_unfolding_all refine TE_seq ?_
    with_unfolding_all refine TE_seq ?_
    with_unfolding_all refine TE_seqY ?_
    have hM5 := MB_none σ
    with_unfolding_all refine TX_move rfl ?_
    with_unfolding_all refine TY_len rfl rfl rfl rfl h0_ rfl ?_
    with_unfolding_all refine TX_move rfl ?_
    with_unfolding_all refine TX_nil ?_
    with_unfolding_all refine thenQ_normal ?_
    with_unfolding_all refine TE_block ?_
    obtain ⟨a14, h15, hF⟩ := bind_s hF
    refine TE_iter (f := F.law12_spans_s1 x0_ x1_) (s0 := 0) (a := a14) (fun (q6 : Int) z => ∃ (s8 : Mem), Own σ [] s8 [] ∧ Le z ⟨fr 26 [(0, v0_), (1, v1_), (12, .int .i64 ((x0_.length : Int))), (13, .int .i64 (q6))], [], s8⟩) (fun (a : (Unit ⊕ Bool)) e z => (∃ p10 : Unit, a = (.inl p10) ∧ e = .exit 0 ∧ ∃ (s11 : Mem), Own σ [] s11 [] ∧ Le z ⟨fr 26 [], [], s11⟩) ∨ (∃ p13 : Bool, a = (.inr (p13)) ∧ e = .ret ∧ doneQ Try.prog Try.f53 (fun v σ' => eB.rel v p13 ∧ Ext σ σ') .ret z)) h15 ?_ ?_ ?_
    · skip
      exact ⟨σ, (hO0.sub 0 rfl), (Le_fr ⟨rfl, ⟨rfl, ⟨rfl, ⟨rfl, trivial⟩⟩⟩⟩)⟩
    · skip
      clear hF
      rintro q6 zq6 r7 ⟨s8, hO9, hz16⟩ hF
      unfold F.law12_spans_s1 at hF
      refine TE_pre hz16 ?_
      with_unfolding_all refine TE_seq ?_
      with_unfolding_all refine TE_seqY ?_
      have hM17 := MB_none s8
      with_unfolding_all refine TX_cmp rfl rfl rfl ?_
      with_unfolding_all refine TX_nil ?_
      with_unfolding_all refine thenQ_normal ?_
      with_unfolding_all refine TE_seq ?_
      with_unfolding_all refine TE_cond rfl (fun hc18 => ?_) (fun hc18 => ?_)
      · skip
        replace hF := ite_t hc18 hF
        with_unfolding_all refine TE_skip ?_
        with_unfolding_all refine thenQ_normal ?_
        with_unfolding_all refine TE_seq ?_
        with_unfolding_all refine TE_block ?_
        with_unfolding_all refine TE_seq ?_
        with_unfolding_all refine TE_seqY ?_
        have hM19 := MB_none s8
        with_unfolding_all refine TX_move rfl ?_
        with_unfolding_all refine TX_assign rfl ?_
        with_unfolding_all refine TX_nil ?_
        with_unfolding_all refine thenQ_normal ?_
        with_unfolding_all refine TE_seq ?_
        obtain ⟨x20, h21, hF⟩ := bind_s hF
        obtain ⟨x22, h23, hF⟩ := bind_s hF
        have hB24 : Bs [] s8 := Bs.nil _
        with_unfolding_all refine TE_drawY [] (by with_unfolding_all rfl) (by kernel_rfl) hB24 ?_
        have hM25 := MB_some hB24
        with_unfolding_all refine TX_move rfl ?_
        with_unfolding_all refine TX_move rfl ?_
        with_unfolding_all refine TY_idx (E := e_match_Span) rfl rfl rfl h0_ rfl h21 ?_
        intro u26 h27
        obtain rfl := h27
        with_unfolding_all refine TX_load_c rfl rfl ?_
        with_unfolding_all refine TX_move rfl ?_
        with_unfolding_all refine TX_move rfl ?_
        with_unfolding_all refine TY_idx (E := e_match_Span) rfl rfl rfl h1_ rfl h23 ?_
        intro u28 h29
        obtain rfl := h29
        with_unfolding_all refine TX_load_c rfl rfl ?_
        with_unfolding_all refine TX_plain (seq_neq_match_Span x20 x22 rfl rfl) rfl rfl ?_
        with_unfolding_all refine TX_nil ?_
        with_unfolding_all refine thenQ_normal ?_
        with_unfolding_all refine TE_cond rfl (fun hc30 => ?_) (fun hc30 => ?_)
        · skip
          replace hF := ite_t hc30 hF
          with_unfolding_all refine TE_seq ?_
          with_unfolding_all refine TE_seqY ?_
          have hM31 := MB_none s8
          with_unfolding_all refine TX_assign rfl ?_
          with_unfolding_all refine TX_nil ?_
          with_unfolding_all refine thenQ_normal ?_
          with_unfolding_all refine TE_ret ?_
          with_unfolding_all refine blockQ_ret ?_
          with_unfolding_all refine thenQ_ret ?_
          obtain rfl := some_s hF
          exact iterQ_ret (.inr <| ⟨_, rfl, rfl, (done_any (vs := [.bool (false)]) (.inr rfl) rfl (resR_tmp rfl resR_nil) ⟨rfl, hO9.ext⟩)⟩)
        · skip
          replace hF := ite_f hc30 hF
          with_unfolding_all refine TE_skip ?_
          with_unfolding_all refine blockQ_normal ?_
          with_unfolding_all refine thenQ_normal ?_
          with_unfolding_all refine TE_seqY ?_
          have hM32 := MB_none s8
          with_unfolding_all refine TX_ari rfl rfl rfl ?_
          with_unfolding_all refine TX_move rfl ?_
          with_unfolding_all refine TX_nil ?_
          obtain rfl := some_s hF
          exact iterQ_again ⟨s8, (hO9.sub 0 rfl), (Le_fr ⟨rfl, ⟨rfl, ⟨rfl, ⟨rfl, trivial⟩⟩⟩⟩)⟩
      · skip
        replace hF := ite_f hc18 hF
        with_unfolding_all refine TE_exit ?_
        with_unfolding_all refine thenQ_exit ?_
        obtain rfl := some_s hF
        exact iterQ_exit (.inl <| ⟨_, rfl, rfl, s8, (hO9.sub 0 rfl), (Le_fr trivial)⟩)
    · skip
      rintro eq6 zq6 (⟨p10, rfl, rfl, s11, hO12, hz33⟩ | ⟨p13, rfl, rfl, hdp13⟩)
      · skip
        try dsimp only at hF
        with_unfolding_all refine blockQ_out ?_
        with_unfolding_all refine thenQ_normal ?_
        refine TE_pre hz33 ?_
        with_unfolding_all refine TE_seq ?_
        with_unfolding_all refine TE_seqY ?_
        have hM34 := MB_none s11
        with_unfolding_all refine TX_assign rfl ?_
        with_unfolding_all refine TX_nil ?_
        with_unfolding_all refine thenQ_normal ?_
        with_unfolding_all refine TE_ret ?_
        obtain rfl := some_s hF
        exact done_any (vs := [.bool (true)]) (.inr rfl) rfl (resR_tmp rfl resR_nil) ⟨rfl, hO12.ext⟩
      · skip
        try dsimp only at hF
        with_unfolding_all refine blockQ_ret ?_
        with_unfolding_all refine thenQ_ret ?_
        obtain rfl := some_s hF
        exact hdp13
end Go.Proofs.Ytihbdelgoapeoaa.K
