/- Walks. Printed. -/
import Derived.Test.YtihbdelgoapeoaaGW13
namespace Go.Proofs.Ytihbdelgoapeoaa.K
open Go Go.RowKit F
set_option maxRecDepth 100000
set_option maxHeartbeats 4000000
set_option linter.unusedVariables false
set_option linter.unusedSimpArgs false
theorem match_Text_First_1_ok {x0_ : match_Match} {c0_ : match_Text} {y : (match_Match × Bool)} (hF : F.match_Text_First_1 x0_ c0_ = some y) {v0_ : AV} {σ : Mem} (h0_ : e_match_Match.rel v0_ x0_) {d0_ : Nat} {w0_ : AV} (k0_ : e_match_Text.rel w0_ c0_) (m0_ : σ[d0_]? = some (.cells w0_.cells)) :
    CallE Try.prog 81 [v0_, .ptr d0_ 0] σ (fun v σ' => (R2 e_match_Match.rel eB.rel) v y ∧ Ext σ σ') := by
  unfold F.match_Text_First_1 at hF
  obtain ⟨u1, u3, rfl, h2, h4⟩ := h0_
  obtain ⟨u5, u7, rfl, h6, h8⟩ := k0_
  refine CallE_of Try.func81 rfl Try.ntmps81 (by simp) ?_
  have hO0 := Own.start σ
  with_unfolding_all refine TE_seq ?_
  with_unfolding_all refine TE_seqY ?_
  have hM9 := MB_none σ
  with_unfolding_all refine TY_box hO0 hM9 rfl rfl ?_
  rintro id10 s11 (hO12 : Own σ [] s11 [.obj id10 [u1, u3]]) hM13
  with_unfolding_all refine TY_alloc hO12 hM13 rfl rfl ?_
  rintro id14 s15 (hO16 : Own σ [] s15 [.obj id14 [.nils, .nils], .obj id10 [u1, u3]]) hM17
  with_unfolding_all refine TX_assign rfl ?_
  with_unfolding_all refine TX_nil ?_
  with_unfolding_all refine thenQ_normal ?_
  with_unfolding_all refine TE_seq ?_
  obtain ⟨x18, h19, hF⟩ := bind_s hF
  have hB20 : Bs [(id10, [u1, u3]), (d0_, [.int .i64 (c0_.From), .int .i64 (c0_.To), u5, u7])] s15 := Bs.cons (hO16.obj 1 rfl) (Bs.cons (hO16.get0 m0_ (List.not_mem_nil)) (Bs.nil _))
  with_unfolding_all refine TE_drawY [(id10, [u1, u3]), (d0_, [.int .i64 (c0_.From), .int .i64 (c0_.To), u5, u7])] (by with_unfolding_all rfl) (by kernel_rfl) hB20 ?_
  have hM21 := MB_some hB20
  with_unfolding_all refine TX_load_p rfl (MC_some 0 rfl) rfl ?_
  with_unfolding_all refine TX_fieldAddr_p rfl rfl rfl ?_
  with_unfolding_all refine TX_load_p rfl (MC_some 0 rfl) rfl ?_
  with_unfolding_all refine TX_makeFunc rfl rfl ?_
  have hc28 : CallE Try.prog 57 [u1, .fn (.func 82) [] [.ptr d0_ 0]] s15 _ := slices_ContainsFunc_match_Span_match_Span_ok h19 h2 ⟨82, [], [.ptr d0_ 0], rfl, en82, fun _ hX22 v23 x24 y26 h25 hy27 => match_Text_First_1_1_ok hy27 h25 ⟨u5, u7, rfl, h6, h8⟩ (hX22.get (hO16.get0 m0_ (List.not_mem_nil)))⟩
  with_unfolding_all refine TY_call hM21 rfl en57 hc28 ?_
  intro v29 s33 hv30 hX31 hM32
  have hO34 := hO16.ext_call hX31
  obtain rfl := hv30
  with_unfolding_all refine TY_store (v := .agg [u1, u3]) (vc := [u1, u3]) hO34 hM32 (MNe.cons (hO34.ne 1 0 rfl rfl (by decide)) (MNe.cons (hO34.ne0 m0_ (List.not_mem_nil) 0 rfl) (MNe.nil _))) rfl rfl rfl rfl (by with_unfolding_all exact Nat.le_of_ble_eq_true rfl) (ones_cons (RS.one1 h2) (ones_cons (RS.one1 h4) ones_nil)) rfl ?_
  rintro s35 (hO36 : Own σ [] s35 [.obj id14 [u1, u3], .obj id10 [u1, u3]]) hM37
  with_unfolding_all refine TX_assign rfl ?_
  with_unfolding_all refine TX_nil ?_
  with_unfolding_all refine thenQ_normal ?_
  with_unfolding_all refine TE_ret ?_
  obtain rfl := some_s hF
  exact done_any (vs := [.agg [u1, u3], .bool (x18)]) (.inr rfl) rfl (resR_cell rfl (hO36.obj 0 rfl) rfl (resR_tmp rfl resR_nil)) ⟨⟨_, _, rfl, ⟨u1, u3, rfl, h2, h4⟩, rfl⟩, hO36.ext⟩
theorem match_Text_First_ok {x0_ : match_Text} {x1_ : (List match_Match)} {y : (List match_Match)} (hF : F.match_Text_First x0_ x1_ = some y) {v0_ : AV} {v1_ : AV} {σ : Mem} (h0_ : e_match_Text.rel v0_ x0_) (h1_ : (RS e_match_Match) v1_ x1_)  :
    CallE Try.prog 47 [v0_, v1_] σ (fun v σ' => (RS e_match_Match) v y ∧ Ext σ σ') := by
  unfold F.match_Text_First at hF
  obtain ⟨u1, u3, rfl, h2, h4⟩ := h0_
  refine CallE_of Try.func47 rfl Try.ntmps47 (by simp) ?_
  have hO0 := Own.start σ
  with_unfolding_all refine TE_seq ?_
  with_unfolding_all refine TE_seqY ?_
  have hM5 := MB_none σ
  with_unfolding_all refine TY_box hO0 hM5 rfl rfl ?_
  rintro id6 s7 (hO8 : Own σ [] s7 [.obj id6 [.int .i64 (x0_.From), .int .i64 (x0_.To), u1, u3]]) hM9
  with_unfolding_all refine TX_assign rfl ?_
  with_unfolding_all refine TX_nil ?_
  with_unfolding_all refine thenQ_normal ?_
  with_unfolding_all refine TE_seq ?_
  obtain ⟨x10, h11, hF⟩ := bind_s hF
  with_unfolding_all refine TE_seqY ?_
  have hM12 := MB_none s7
  with_unfolding_all refine TX_move rfl ?_
  with_unfolding_all refine TX_makeFunc rfl rfl ?_
  have hc19 : CallE Try.prog 59 [v1_, .fn (.func 81) [] [.ptr id6 0]] s7 _ := match_keep_ok h11 h1_ ⟨81, [], [.ptr id6 0], rfl, en81, fun _ hX13 v14 x15 y17 h16 hy18 => match_Text_First_1_ok hy18 h16 ⟨u1, u3, rfl, h2, h4⟩ (hX13.get (hO8.obj 0 rfl))⟩
  with_unfolding_all refine TY_call hM12 rfl en59 hc19 ?_
  intro v20 s24 hv21 hX22 hM23
  have hO25 := hO8.ext_call hX22
  with_unfolding_all refine TX_assign rfl ?_
  with_unfolding_all refine TX_nil ?_
  with_unfolding_all refine thenQ_normal ?_
  with_unfolding_all refine TE_ret ?_
  obtain rfl := some_s hF
  exact done_any (vs := [v20]) (.inr rfl) rfl (resR_tmp rfl resR_nil) ⟨hv21, hO25.ext⟩
theorem law12_MatchAgain_ok {x0_ : (List match_Match)} {x1_ : (List Int)} {x2_ : Int} {x3_ : Int} {y : Bool} (hF : F.law12_MatchAgain x0_ x1_ x2_ x3_ = some y) {v0_ : AV} {v1_ : AV} {v2_ : AV} {v3_ : AV} {σ : Mem} (h0_ : (RS e_match_Match) v0_ x0_) (h1_ : (RS (eI .i64)) v1_ x1_) (h2_ : (eI .i64).rel v2_ x2_) (h3_ : (eI .i64).rel v3_ x3_)  :
    CallE Try.prog 11 [v0_, v1_, v2_, v3_] σ (fun v σ' => eB.rel v y ∧ Ext σ σ') := by
  unfold F.law12_MatchAgain at hF
  obtain rfl := h2_
  obtain rfl := h3_
  refine CallE_of Try.func11 rfl Try.ntmps11 (by simp) ?_
  have hO0 := Own.start σ
  with_unfolding_all refine TE_seq ?_
  with_unfolding_all refine TE_seqY ?_
  have hM1 := MB_none σ
  with_unfolding_all refine TX_assign rfl ?_
  with_unfolding_all refine TX_nil ?_
  with_unfolding_all refine thenQ_normal ?_
  with_unfolding_all refine TE_seq ?_
  with_unfolding_all refine TE_seq ?_
  obtain ⟨x2, h3, hF⟩ := bind_s hF
  with_unfolding_all refine TE_seqY ?_
  have hM4 := MB_none σ
  have hc5 : CallE Try.prog 14 [] σ _ := law12_head_ok h3 
  with_unfolding_all refine TY_call hM4 rfl en14 hc5 ?_
  intro v6 s10 hv7 hX8 hM9
  have hO11 := hO0.ext_call hX8
  obtain rfl := hv7
  with_unfolding_all refine TX_not rfl ?_
  with_unfolding_all refine TX_nil ?_
  with_unfolding_all refine thenQ_normal ?_
  with_unfolding_all refine TE_cond rfl (fun hc12 => ?_) (fun hc12 => ?_)
  · skip
    replace hF := ite_t hc12 hF
    with_unfolding_all refine TE_seq ?_
    with_unfolding_all refine TE_seqY ?_
    have hM13 := MB_none s10
    with_unfolding_all refine TX_assign rfl ?_
    with_unfolding_all refine TX_nil ?_
    with_unfolding_all refine thenQ_normal ?_
    with_unfolding_all refine TE_ret ?_
    with_unfolding_all refine thenQ_ret ?_
    obtain rfl := some_s hF
    exact done_any (vs := [.bool (false)]) (.inr rfl) rfl (resR_tmp rfl resR_nil) ⟨rfl, hO11.ext⟩
  · skip
    replace hF := ite_f hc12 hF
    with_unfolding_all refine TE_skip ?_
    with_unfolding_all refine thenQ_normal ?_
    with_unfolding_all refine TE_seq ?_
    with_unfolding_all refine TE_seq ?_
    obtain ⟨x14, h15, hF⟩ := bind_s hF
    with_unfolding_all refine TE_seqY ?_
    have hM16 := MB_none s10
    with_unfolding_all refine TX_move rfl ?_
    have hc17 : CallE Try.prog 15 [v0_, .int .i64 (30)] s10 _ := law12_Good_ok h15 h0_ rfl
    with_unfolding_all refine TY_call hM16 rfl en15 hc17 ?_
    intro v18 s22 hv19 hX20 hM21
    have hO23 := hO11.ext_call hX20
    obtain rfl := hv19
    with_unfolding_all refine TX_not rfl ?_
    with_unfolding_all refine TX_nil ?_
    with_unfolding_all refine thenQ_normal ?_
    with_unfolding_all refine TE_cond rfl (fun hc24 => ?_) (fun hc24 => ?_)
    · skip
      replace hF := ite_t hc24 hF
      with_unfolding_all refine TE_seq ?_
      with_unfolding_all refine TE_seqY ?_
      have hM25 := MB_none s22
      with_unfolding_all refine TX_assign rfl ?_
      with_unfolding_all refine TX_nil ?_
      with_unfolding_all refine thenQ_normal ?_
      with_unfolding_all refine TE_ret ?_
      with_unfolding_all refine thenQ_ret ?_
      obtain rfl := some_s hF
      exact done_any (vs := [.bool (true)]) (.inr rfl) rfl (resR_tmp rfl resR_nil) ⟨rfl, hO23.ext⟩
    · skip
      replace hF := ite_f hc24 hF
      with_unfolding_all refine TE_skip ?_
      with_unfolding_all refine thenQ_normal ?_
      with_unfolding_all refine TE_seq ?_
      obtain ⟨x26, h27, hF⟩ := bind_s hF
      obtain ⟨x28, h29, hF⟩ := bind_s hF
      with_unfolding_all refine TE_seqY ?_
      have hM30 := MB_none s22
      with_unfolding_all refine TX_move rfl ?_
      have hc31 : CallE Try.prog 34 [v1_] s22 _ := law12_up_ok h27 h1_
      with_unfolding_all refine TY_call hM30 rfl en34 hc31 ?_
      intro v32 s36 hv33 hX34 hM35
      have hO37 := hO23.ext_call hX34
      with_unfolding_all refine TX_move rfl ?_
      have hc38 : CallE Try.prog 34 [v1_] s36 _ := law12_up_ok h29 h1_
      with_unfolding_all refine TY_call hM35 rfl en34 hc38 ?_
      intro v39 s43 hv40 hX41 hM42
      have hO44 := hO37.ext_call hX41
      with_unfolding_all refine TY_build [.int .i64 (0), .int .i64 (30), v32, v39] rfl rfl rfl (by with_unfolding_all exact Fill.cons rfl rfl rfl (by with_unfolding_all exact Nat.le_of_ble_eq_true rfl) (Fill.cons rfl rfl rfl (by with_unfolding_all exact Nat.le_of_ble_eq_true rfl) (Fill.cons rfl (RS.cells hv33) rfl (by with_unfolding_all exact Nat.le_of_ble_eq_true rfl) (Fill.cons rfl (RS.cells hv40) rfl (by with_unfolding_all exact Nat.le_of_ble_eq_true rfl) (Fill.nil _))))) (by with_unfolding_all rfl) ?_
      with_unfolding_all refine TY_alloc hO44 hM42 rfl rfl ?_
      rintro id45 s46 (hO47 : Own σ [] s46 [.obj id45 [.int .i64 (0), .int .i64 (0), .nils, .nils]]) hM48
      with_unfolding_all refine TY_store (v := .agg [.int .i64 (0), .int .i64 (30), v32, v39]) (vc := [.int .i64 (0), .int .i64 (30), v32, v39]) hO47 hM48 (MNe.none _) rfl rfl rfl rfl (by with_unfolding_all exact Nat.le_of_ble_eq_true rfl) (ones_cons rfl (ones_cons rfl (ones_cons (RS.one1 hv33) (ones_cons (RS.one1 hv40) ones_nil)))) rfl ?_
      rintro s49 (hO50 : Own σ [] s49 [.obj id45 [.int .i64 (0), .int .i64 (30), v32, v39]]) hM51
      with_unfolding_all refine TX_nil ?_
      with_unfolding_all refine thenQ_normal ?_
      with_unfolding_all refine TE_seq ?_
      with_unfolding_all refine TE_seqY ?_
      have hM52 := MB_none s49
      with_unfolding_all refine TX_move rfl ?_
      with_unfolding_all refine TX_convInt rfl rfl rfl ?_
      with_unfolding_all refine TX_div rfl rfl (by decide) rfl ?_
      with_unfolding_all refine TX_convInt rfl rfl rfl ?_
      with_unfolding_all refine TX_assign rfl ?_
      with_unfolding_all refine TX_nil ?_
      with_unfolding_all refine thenQ_normal ?_
      with_unfolding_all refine TE_seq ?_
      with_unfolding_all refine TE_seqY ?_
      have hM53 := MB_none s49
      with_unfolding_all refine TX_move rfl ?_
      with_unfolding_all refine TX_bit rfl rfl rfl ?_
      with_unfolding_all refine TX_assign rfl ?_
      with_unfolding_all refine TX_nil ?_
      with_unfolding_all refine thenQ_normal ?_
      with_unfolding_all refine TE_seq ?_
      obtain ⟨x54, h55, hF⟩ := bind_s hF
      with_unfolding_all refine TE_seqY ?_
      have hM56 := MB_none s49
      with_unfolding_all refine TX_move rfl ?_
      have hc57 : CallE Try.prog 31 [v0_] s49 _ := match_Ordered_ok h55 h0_
      with_unfolding_all refine TY_call hM56 rfl en31 hc57 ?_
      intro v58 s62 hv59 hX60 hM61
      have hO63 := hO50.ext_call hX60
      with_unfolding_all refine TX_assign rfl ?_
      with_unfolding_all refine TX_nil ?_
      with_unfolding_all refine thenQ_normal ?_
      with_unfolding_all refine TE_seq ?_
      obtain ⟨x64, h65, hF⟩ := bind_s hF
      with_unfolding_all refine TE_seqY ?_
      have hM66 := MB_none s62
      with_unfolding_all refine TX_load_p rfl (MC_none (hO63.obj 0 rfl)) rfl ?_
      with_unfolding_all refine TX_move rfl ?_
      with_unfolding_all refine TX_move rfl ?_
      with_unfolding_all refine TX_move rfl ?_
      have hc67 : CallE Try.prog 44 [.agg [.int .i64 (0), .int .i64 (30), v32, v39], v0_, .int .i64 ((band .i64 x2_ 31)), .int .i64 ((IntKind.wrap .i64 (Int.tmod (IntKind.wrap .u64 x3_) 3)))] s62 _ := match_Text_Window_ok h65 ⟨v32, v39, rfl, hv33, hv40⟩ h0_ rfl rfl
      with_unfolding_all refine TY_call hM66 rfl en44 hc67 ?_
      intro v68 s72 hv69 hX70 hM71
      have hO73 := hO63.ext_call hX70
      with_unfolding_all refine TX_assign rfl ?_
      with_unfolding_all refine TX_nil ?_
      with_unfolding_all refine thenQ_normal ?_
      with_unfolding_all refine TE_seq ?_
      obtain ⟨x74, h75, hF⟩ := bind_s hF
      with_unfolding_all refine TE_seqY ?_
      have hM76 := MB_none s72
      with_unfolding_all refine TX_load_p rfl (MC_none (hO73.obj 0 rfl)) rfl ?_
      with_unfolding_all refine TX_move rfl ?_
      with_unfolding_all refine TX_move rfl ?_
      have hc77 : CallE Try.prog 45 [.agg [.int .i64 (0), .int .i64 (30), v32, v39], v0_, .int .i64 ((IntKind.wrap .i64 (Int.tmod (IntKind.wrap .u64 x3_) 3)))] s72 _ := match_Text_Same_ok h75 ⟨v32, v39, rfl, hv33, hv40⟩ h0_ rfl
      with_unfolding_all refine TY_call hM76 rfl en45 hc77 ?_
      intro v78 s82 hv79 hX80 hM81
      have hO83 := hO73.ext_call hX80
      with_unfolding_all refine TX_assign rfl ?_
      with_unfolding_all refine TX_nil ?_
      with_unfolding_all refine thenQ_normal ?_
      with_unfolding_all refine TE_seq ?_
      obtain ⟨x84, h85, hF⟩ := bind_s hF
      with_unfolding_all refine TE_seqY ?_
      have hM86 := MB_none s82
      with_unfolding_all refine TX_load_p rfl (MC_none (hO83.obj 0 rfl)) rfl ?_
      with_unfolding_all refine TX_move rfl ?_
      with_unfolding_all refine TX_move rfl ?_
      have hc87 : CallE Try.prog 46 [.agg [.int .i64 (0), .int .i64 (30), v32, v39], v0_, .int .i64 ((IntKind.wrap .i64 (Int.tmod (IntKind.wrap .u64 x3_) 3)))] s82 _ := match_Text_Apart_ok h85 ⟨v32, v39, rfl, hv33, hv40⟩ h0_ rfl
      with_unfolding_all refine TY_call hM86 rfl en46 hc87 ?_
      intro v88 s92 hv89 hX90 hM91
      have hO93 := hO83.ext_call hX90
      with_unfolding_all refine TX_assign rfl ?_
      with_unfolding_all refine TX_nil ?_
      with_unfolding_all refine thenQ_normal ?_
      with_unfolding_all refine TE_seq ?_
      obtain ⟨x94, h95, hF⟩ := bind_s hF
      obtain ⟨x96, h97, hF⟩ := bind_s hF
      obtain ⟨r102, h103, hF⟩ := bind_s hF
      obtain ⟨r108, h109, hF⟩ := bind_s hF
      obtain ⟨r114, h115, hF⟩ := bind_s hF
      obtain ⟨r118, h119, hF⟩ := bind_s hF
      obtain ⟨r124, h125, hF⟩ := bind_s hF
      obtain ⟨r128, h129, hF⟩ := bind_s hF
      obtain ⟨r136, h137, hF⟩ := bind_s hF
      have hB138 : Bs [(id45, [.int .i64 (0), .int .i64 (30), v32, v39])] s92 := Bs.cons (hO93.obj 0 rfl) (Bs.nil _)
      with_unfolding_all refine TE_drawY [(id45, [.int .i64 (0), .int .i64 (30), v32, v39])] (by with_unfolding_all rfl) (by kernel_rfl) hB138 ?_
      have hM139 := MB_some hB138
      with_unfolding_all refine TX_move rfl ?_
      have hc140 : CallE Try.prog 31 [v58] s92 _ := match_Ordered_ok h95 hv59
      with_unfolding_all refine TY_call hM139 rfl en31 hc140 ?_
      intro v141 s145 hv142 hX143 hM144
      have hO146 := hO93.ext_call hX143
      with_unfolding_all refine TX_move rfl ?_
      have hc147 : CallE Try.prog 16 [v141, v58] s145 _ := law12_Same_ok h97 hv142 hv59
      with_unfolding_all refine TY_call hM144 rfl en16 hc147 ?_
      intro v148 s152 hv149 hX150 hM151
      have hO153 := hO146.ext_call hX150
      obtain rfl := hv149
      with_unfolding_all refine TX_move rfl ?_
      with_unfolding_all refine TX_guard_t rfl rfl (fun hc154 => ?_) (fun hc154 => ?_)
      · skip
        replace h103 := ite_t hc154 h103
        obtain ⟨x98, h99, h103⟩ := bind_s h103
        obtain ⟨x100, h101, h103⟩ := bind_s h103
        with_unfolding_all refine TX_load_p rfl (MC_some 0 rfl) rfl ?_
        with_unfolding_all refine TX_guard_yes rfl rfl hc154 ?_
        with_unfolding_all refine TX_move rfl ?_
        with_unfolding_all refine TX_guard_yes rfl rfl hc154 ?_
        with_unfolding_all refine TX_move rfl ?_
        with_unfolding_all refine TX_guard_yes rfl rfl hc154 ?_
        with_unfolding_all refine TX_move rfl ?_
        with_unfolding_all refine TX_guard_yes rfl rfl hc154 ?_
        have hc155 : CallE Try.prog 44 [.agg [.int .i64 (0), .int .i64 (30), v32, v39], v68, .int .i64 ((band .i64 x2_ 31)), .int .i64 ((IntKind.wrap .i64 (Int.tmod (IntKind.wrap .u64 x3_) 3)))] s152 _ := match_Text_Window_ok h99 ⟨v32, v39, rfl, hv33, hv40⟩ hv69 rfl rfl
        with_unfolding_all refine TY_call hM151 rfl en44 hc155 ?_
        intro v156 s160 hv157 hX158 hM159
        have hO161 := hO153.ext_call hX158
        with_unfolding_all refine TX_guard_yes rfl rfl hc154 ?_
        with_unfolding_all refine TX_move rfl ?_
        with_unfolding_all refine TX_guard_yes rfl rfl hc154 ?_
        have hc162 : CallE Try.prog 16 [v156, v68] s160 _ := law12_Same_ok h101 hv157 hv69
        with_unfolding_all refine TY_call hM159 rfl en16 hc162 ?_
        intro v163 s167 hv164 hX165 hM166
        have hO168 := hO161.ext_call hX165
        obtain rfl := hv164
        with_unfolding_all refine TX_pick_t rfl hc154 rfl ?_
        obtain rfl := some_s h103
        with_unfolding_all refine TX_move rfl ?_
        with_unfolding_all refine TX_guard_t rfl rfl (fun hc169 => ?_) (fun hc169 => ?_)
        · skip
          replace h109 := ite_t hc169 h109
          obtain ⟨x104, h105, h109⟩ := bind_s h109
          obtain ⟨x106, h107, h109⟩ := bind_s h109
          with_unfolding_all refine TX_load_p rfl (MC_some 0 rfl) rfl ?_
          with_unfolding_all refine TX_guard_yes rfl rfl hc169 ?_
          with_unfolding_all refine TX_move rfl ?_
          with_unfolding_all refine TX_guard_yes rfl rfl hc169 ?_
          with_unfolding_all refine TX_move rfl ?_
          with_unfolding_all refine TX_guard_yes rfl rfl hc169 ?_
          have hc170 : CallE Try.prog 45 [.agg [.int .i64 (0), .int .i64 (30), v32, v39], v78, .int .i64 ((IntKind.wrap .i64 (Int.tmod (IntKind.wrap .u64 x3_) 3)))] s167 _ := match_Text_Same_ok h105 ⟨v32, v39, rfl, hv33, hv40⟩ hv79 rfl
          with_unfolding_all refine TY_call hM166 rfl en45 hc170 ?_
          intro v171 s175 hv172 hX173 hM174
          have hO176 := hO168.ext_call hX173
          with_unfolding_all refine TX_guard_yes rfl rfl hc169 ?_
          with_unfolding_all refine TX_move rfl ?_
          with_unfolding_all refine TX_guard_yes rfl rfl hc169 ?_
          have hc177 : CallE Try.prog 16 [v171, v78] s175 _ := law12_Same_ok h107 hv172 hv79
          with_unfolding_all refine TY_call hM174 rfl en16 hc177 ?_
          intro v178 s182 hv179 hX180 hM181
          have hO183 := hO176.ext_call hX180
          obtain rfl := hv179
          with_unfolding_all refine TX_pick_t rfl hc169 rfl ?_
          obtain rfl := some_s h109
          with_unfolding_all refine TX_move rfl ?_
          with_unfolding_all refine TX_guard_t rfl rfl (fun hc184 => ?_) (fun hc184 => ?_)
          · skip
            replace h115 := ite_t hc184 h115
            obtain ⟨x110, h111, h115⟩ := bind_s h115
            obtain ⟨x112, h113, h115⟩ := bind_s h115
            with_unfolding_all refine TX_load_p rfl (MC_some 0 rfl) rfl ?_
            with_unfolding_all refine TX_guard_yes rfl rfl hc184 ?_
            with_unfolding_all refine TX_move rfl ?_
            with_unfolding_all refine TX_guard_yes rfl rfl hc184 ?_
            with_unfolding_all refine TX_move rfl ?_
            with_unfolding_all refine TX_guard_yes rfl rfl hc184 ?_
            have hc185 : CallE Try.prog 46 [.agg [.int .i64 (0), .int .i64 (30), v32, v39], v88, .int .i64 ((IntKind.wrap .i64 (Int.tmod (IntKind.wrap .u64 x3_) 3)))] s182 _ := match_Text_Apart_ok h111 ⟨v32, v39, rfl, hv33, hv40⟩ hv89 rfl
            with_unfolding_all refine TY_call hM181 rfl en46 hc185 ?_
            intro v186 s190 hv187 hX188 hM189
            have hO191 := hO183.ext_call hX188
            with_unfolding_all refine TX_guard_yes rfl rfl hc184 ?_
            with_unfolding_all refine TX_move rfl ?_
            with_unfolding_all refine TX_guard_yes rfl rfl hc184 ?_
            have hc192 : CallE Try.prog 16 [v186, v88] s190 _ := law12_Same_ok h113 hv187 hv89
            with_unfolding_all refine TY_call hM189 rfl en16 hc192 ?_
            intro v193 s197 hv194 hX195 hM196
            have hO198 := hO191.ext_call hX195
            obtain rfl := hv194
            with_unfolding_all refine TX_pick_t rfl hc184 rfl ?_
            obtain rfl := some_s h115
            with_unfolding_all refine TX_move rfl ?_
            with_unfolding_all refine TX_guard_t rfl rfl (fun hc199 => ?_) (fun hc199 => ?_)
            · skip
              replace h119 := ite_t hc199 h119
              obtain ⟨x116, h117, h119⟩ := bind_s h119
              with_unfolding_all refine TX_load_p rfl (MC_some 0 rfl) rfl ?_
              with_unfolding_all refine TX_guard_yes rfl rfl hc199 ?_
              with_unfolding_all refine TX_move rfl ?_
              with_unfolding_all refine TX_guard_yes rfl rfl hc199 ?_
              with_unfolding_all refine TX_move rfl ?_
              with_unfolding_all refine TX_guard_yes rfl rfl hc199 ?_
              with_unfolding_all refine TX_ari rfl rfl rfl ?_
              with_unfolding_all refine TX_guard_yes rfl rfl hc199 ?_
              with_unfolding_all refine TX_move rfl ?_
              with_unfolding_all refine TX_guard_yes rfl rfl hc199 ?_
              have hc200 : CallE Try.prog 44 [.agg [.int .i64 (0), .int .i64 (30), v32, v39], v0_, .int .i64 ((IntKind.wrap .i64 ((band .i64 x2_ 31) + 1))), .int .i64 ((IntKind.wrap .i64 (Int.tmod (IntKind.wrap .u64 x3_) 3)))] s197 _ := match_Text_Window_ok h117 ⟨v32, v39, rfl, hv33, hv40⟩ h0_ rfl rfl
              with_unfolding_all refine TY_call hM196 rfl en44 hc200 ?_
              intro v201 s205 hv202 hX203 hM204
              have hO206 := hO198.ext_call hX203
              with_unfolding_all refine TX_guard_yes rfl rfl hc199 ?_
              with_unfolding_all refine TY_len rfl rfl rfl rfl hv202 rfl ?_
              with_unfolding_all refine TX_guard_yes rfl rfl hc199 ?_
              with_unfolding_all refine TX_move rfl ?_
              with_unfolding_all refine TX_guard_yes rfl rfl hc199 ?_
              with_unfolding_all refine TY_len rfl rfl rfl rfl hv69 rfl ?_
              with_unfolding_all refine TX_guard_yes rfl rfl hc199 ?_
              with_unfolding_all refine TX_cmp rfl rfl rfl ?_
              with_unfolding_all refine TX_pick_t rfl hc199 rfl ?_
              obtain rfl := some_s h119
              with_unfolding_all refine TX_move rfl ?_
              with_unfolding_all refine TX_guard_t rfl rfl (fun hc207 => ?_) (fun hc207 => ?_)
              · skip
                replace h125 := ite_t hc207 h125
                obtain ⟨x120, h121, h125⟩ := bind_s h125
                obtain ⟨x122, h123, h125⟩ := bind_s h125
                with_unfolding_all refine TX_load_p rfl (MC_some 0 rfl) rfl ?_
                with_unfolding_all refine TX_guard_yes rfl rfl hc207 ?_
                with_unfolding_all refine TX_move rfl ?_
                with_unfolding_all refine TX_guard_yes rfl rfl hc207 ?_
                with_unfolding_all refine TX_move rfl ?_
                with_unfolding_all refine TX_guard_yes rfl rfl hc207 ?_
                with_unfolding_all refine TX_ari rfl rfl rfl ?_
                with_unfolding_all refine TX_guard_yes rfl rfl hc207 ?_
                have hc208 : CallE Try.prog 44 [.agg [.int .i64 (0), .int .i64 (30), v32, v39], v0_, .int .i64 ((IntKind.wrap .i64 ((band .i64 x2_ 31) + 1))), .int .i64 (0)] s205 _ := match_Text_Window_ok h121 ⟨v32, v39, rfl, hv33, hv40⟩ h0_ rfl rfl
                with_unfolding_all refine TY_call hM204 rfl en44 hc208 ?_
                intro v209 s213 hv210 hX211 hM212
                have hO214 := hO206.ext_call hX211
                with_unfolding_all refine TX_guard_yes rfl rfl hc207 ?_
                with_unfolding_all refine TY_len rfl rfl rfl rfl hv210 rfl ?_
                with_unfolding_all refine TX_guard_yes rfl rfl hc207 ?_
                with_unfolding_all refine TX_load_p rfl (MC_some 0 rfl) rfl ?_
                with_unfolding_all refine TX_guard_yes rfl rfl hc207 ?_
                with_unfolding_all refine TX_move rfl ?_
                with_unfolding_all refine TX_guard_yes rfl rfl hc207 ?_
                with_unfolding_all refine TX_move rfl ?_
                with_unfolding_all refine TX_guard_yes rfl rfl hc207 ?_
                have hc215 : CallE Try.prog 44 [.agg [.int .i64 (0), .int .i64 (30), v32, v39], v0_, .int .i64 ((band .i64 x2_ 31)), .int .i64 (0)] s213 _ := match_Text_Window_ok h123 ⟨v32, v39, rfl, hv33, hv40⟩ h0_ rfl rfl
                with_unfolding_all refine TY_call hM212 rfl en44 hc215 ?_
                intro v216 s220 hv217 hX218 hM219
                have hO221 := hO214.ext_call hX218
                with_unfolding_all refine TX_guard_yes rfl rfl hc207 ?_
                with_unfolding_all refine TY_len rfl rfl rfl rfl hv217 rfl ?_
                with_unfolding_all refine TX_guard_yes rfl rfl hc207 ?_
                with_unfolding_all refine TX_cmp rfl rfl rfl ?_
                with_unfolding_all refine TX_pick_t rfl hc207 rfl ?_
                obtain rfl := some_s h125
                with_unfolding_all refine TX_move rfl ?_
                with_unfolding_all refine TX_guard_t rfl rfl (fun hc222 => ?_) (fun hc222 => ?_)
                · skip
                  replace h129 := ite_t hc222 h129
                  obtain ⟨x126, h127, h129⟩ := bind_s h129
                  with_unfolding_all refine TX_move rfl ?_
                  with_unfolding_all refine TX_guard_yes rfl rfl hc222 ?_
                  have hc223 : CallE Try.prog 17 [v0_, .nils] s220 _ := match_Mild_ok h127 h0_ (RS.nil e_match_Match)
                  with_unfolding_all refine TY_call hM219 rfl en17 hc223 ?_
                  intro v224 s228 hv225 hX226 hM227
                  have hO229 := hO221.ext_call hX226
                  with_unfolding_all refine TX_guard_yes rfl rfl hc222 ?_
                  with_unfolding_all refine TY_len rfl rfl rfl rfl hv225 rfl ?_
                  with_unfolding_all refine TX_guard_yes rfl rfl hc222 ?_
                  with_unfolding_all refine TX_move rfl ?_
                  with_unfolding_all refine TX_guard_yes rfl rfl hc222 ?_
                  with_unfolding_all refine TY_len rfl rfl rfl rfl h0_ rfl ?_
                  with_unfolding_all refine TX_guard_yes rfl rfl hc222 ?_
                  with_unfolding_all refine TX_cmp rfl rfl rfl ?_
                  with_unfolding_all refine TX_pick_t rfl hc222 rfl ?_
                  obtain rfl := some_s h129
                  with_unfolding_all refine TX_move rfl ?_
                  with_unfolding_all refine TX_guard_t rfl rfl (fun hc230 => ?_) (fun hc230 => ?_)
                  · skip
                    replace h137 := ite_t hc230 h137
                    obtain ⟨x130, h131, h137⟩ := bind_s h137
                    obtain ⟨x132, h133, h137⟩ := bind_s h137
                    obtain ⟨x134, h135, h137⟩ := bind_s h137
                    with_unfolding_all refine TX_load_p rfl (MC_some 0 rfl) rfl ?_
                    with_unfolding_all refine TX_guard_yes rfl rfl hc230 ?_
                    with_unfolding_all refine TX_load_p rfl (MC_some 0 rfl) rfl ?_
                    with_unfolding_all refine TX_guard_yes rfl rfl hc230 ?_
                    with_unfolding_all refine TX_move rfl ?_
                    with_unfolding_all refine TX_guard_yes rfl rfl hc230 ?_
                    have hc231 : CallE Try.prog 47 [.agg [.int .i64 (0), .int .i64 (30), v32, v39], v0_] s228 _ := match_Text_First_ok h131 ⟨v32, v39, rfl, hv33, hv40⟩ h0_
                    with_unfolding_all refine TY_call hM227 rfl en47 hc231 ?_
                    intro v232 s236 hv233 hX234 hM235
                    have hO237 := hO229.ext_call hX234
                    with_unfolding_all refine TX_guard_yes rfl rfl hc230 ?_
                    have hc238 : CallE Try.prog 47 [.agg [.int .i64 (0), .int .i64 (30), v32, v39], v232] s236 _ := match_Text_First_ok h133 ⟨v32, v39, rfl, hv33, hv40⟩ hv233
                    with_unfolding_all refine TY_call hM235 rfl en47 hc238 ?_
                    intro v239 s243 hv240 hX241 hM242
                    have hO244 := hO237.ext_call hX241
                    with_unfolding_all refine TX_guard_yes rfl rfl hc230 ?_
                    with_unfolding_all refine TY_len rfl rfl rfl rfl hv240 rfl ?_
                    with_unfolding_all refine TX_guard_yes rfl rfl hc230 ?_
                    with_unfolding_all refine TX_load_p rfl (MC_some 0 rfl) rfl ?_
                    with_unfolding_all refine TX_guard_yes rfl rfl hc230 ?_
                    with_unfolding_all refine TX_move rfl ?_
                    with_unfolding_all refine TX_guard_yes rfl rfl hc230 ?_
                    have hc245 : CallE Try.prog 47 [.agg [.int .i64 (0), .int .i64 (30), v32, v39], v0_] s243 _ := match_Text_First_ok h135 ⟨v32, v39, rfl, hv33, hv40⟩ h0_
                    with_unfolding_all refine TY_call hM242 rfl en47 hc245 ?_
                    intro v246 s250 hv247 hX248 hM249
                    have hO251 := hO244.ext_call hX248
                    with_unfolding_all refine TX_guard_yes rfl rfl hc230 ?_
                    with_unfolding_all refine TY_len rfl rfl rfl rfl hv247 rfl ?_
                    with_unfolding_all refine TX_guard_yes rfl rfl hc230 ?_
                    with_unfolding_all refine TX_cmp rfl rfl rfl ?_
                    with_unfolding_all refine TX_pick_t rfl hc230 rfl ?_
                    obtain rfl := some_s h137
                    with_unfolding_all refine TX_assign rfl ?_
                    with_unfolding_all refine TX_nil ?_
                    with_unfolding_all refine thenQ_normal ?_
                    with_unfolding_all refine TE_ret ?_
                    obtain rfl := some_s hF
                    exact done_any (vs := [.bool (((x132.length : Int) == (x134.length : Int)))]) (.inr rfl) rfl (resR_tmp rfl resR_nil) ⟨rfl, hO251.ext⟩
                  · skip
                    replace h137 := ite_f hc230 h137
                    obtain rfl := some_s h137
                    with_unfolding_all refine TX_guard_no_t rfl rfl hc230 ?_
                    with_unfolding_all refine TX_guard_no_t rfl rfl hc230 ?_
                    with_unfolding_all refine TX_guard_no_t rfl rfl hc230 ?_
                    with_unfolding_all refine TX_guard_no_t rfl rfl hc230 ?_
                    with_unfolding_all refine TX_guard_no_t rfl rfl hc230 ?_
                    with_unfolding_all refine TX_guard_no_t rfl rfl hc230 ?_
                    with_unfolding_all refine TX_guard_no_t rfl rfl hc230 ?_
                    with_unfolding_all refine TX_guard_no_t rfl rfl hc230 ?_
                    with_unfolding_all refine TX_guard_no_t rfl rfl hc230 ?_
                    with_unfolding_all refine TX_guard_no_t rfl rfl hc230 ?_
                    with_unfolding_all refine TX_pick_f rfl hc230 rfl ?_
                    with_unfolding_all refine TX_assign rfl ?_
                    with_unfolding_all refine TX_nil ?_
                    with_unfolding_all refine thenQ_normal ?_
                    with_unfolding_all refine TE_ret ?_
                    obtain rfl := some_s hF
                    exact done_any (vs := [.bool (false)]) (.inr rfl) rfl (resR_tmp rfl resR_nil) ⟨rfl, hO229.ext⟩
                · skip
                  replace h129 := ite_f hc222 h129
                  obtain rfl := some_s h129
                  with_unfolding_all refine TX_guard_no_t rfl rfl hc222 ?_
                  with_unfolding_all refine TX_guard_no_t rfl rfl hc222 ?_
                  with_unfolding_all refine TX_guard_no_t rfl rfl hc222 ?_
                  with_unfolding_all refine TX_guard_no_t rfl rfl hc222 ?_
                  with_unfolding_all refine TX_guard_no_t rfl rfl hc222 ?_
                  with_unfolding_all refine TX_pick_f rfl hc222 rfl ?_
                  with_unfolding_all refine TX_move rfl ?_
                  replace h137 := ite_f rfl h137
                  obtain rfl := some_s h137
                  with_unfolding_all refine TX_guard_no_t rfl rfl rfl ?_
                  with_unfolding_all refine TX_guard_no_t rfl rfl rfl ?_
                  with_unfolding_all refine TX_guard_no_t rfl rfl rfl ?_
                  with_unfolding_all refine TX_guard_no_t rfl rfl rfl ?_
                  with_unfolding_all refine TX_guard_no_t rfl rfl rfl ?_
                  with_unfolding_all refine TX_guard_no_t rfl rfl rfl ?_
                  with_unfolding_all refine TX_guard_no_t rfl rfl rfl ?_
                  with_unfolding_all refine TX_guard_no_t rfl rfl rfl ?_
                  with_unfolding_all refine TX_guard_no_t rfl rfl rfl ?_
                  with_unfolding_all refine TX_guard_no_t rfl rfl rfl ?_
                  with_unfolding_all refine TX_guard_no_t rfl rfl rfl ?_
                  with_unfolding_all refine TX_pick_f rfl rfl rfl ?_
                  with_unfolding_all refine TX_assign rfl ?_
                  with_unfolding_all refine TX_nil ?_
                  with_unfolding_all refine thenQ_normal ?_
                  with_unfolding_all refine TE_ret ?_
                  obtain rfl := some_s hF
                  exact done_any (vs := [.bool (false)]) (.inr rfl) rfl (resR_tmp rfl resR_nil) ⟨rfl, hO221.ext⟩
              · skip
                replace h125 := ite_f hc207 h125
                obtain rfl := some_s h125
                with_unfolding_all refine TX_guard_no_t rfl rfl hc207 ?_
                with_unfolding_all refine TX_guard_no_t rfl rfl hc207 ?_
                with_unfolding_all refine TX_guard_no_t rfl rfl hc207 ?_
                with_unfolding_all refine TX_guard_no_t rfl rfl hc207 ?_
                with_unfolding_all refine TX_guard_no_t rfl rfl hc207 ?_
                with_unfolding_all refine TX_guard_no_t rfl rfl hc207 ?_
                with_unfolding_all refine TX_guard_no_t rfl rfl hc207 ?_
                with_unfolding_all refine TX_guard_no_t rfl rfl hc207 ?_
                with_unfolding_all refine TX_guard_no_t rfl rfl hc207 ?_
                with_unfolding_all refine TX_guard_no_t rfl rfl hc207 ?_
                with_unfolding_all refine TX_guard_no_t rfl rfl hc207 ?_
                with_unfolding_all refine TX_pick_f rfl hc207 rfl ?_
                with_unfolding_all refine TX_move rfl ?_
                replace h129 := ite_f rfl h129
                obtain rfl := some_s h129
                with_unfolding_all refine TX_guard_no_t rfl rfl rfl ?_
                with_unfolding_all refine TX_guard_no_t rfl rfl rfl ?_
                with_unfolding_all refine TX_guard_no_t rfl rfl rfl ?_
                with_unfolding_all refine TX_guard_no_t rfl rfl rfl ?_
                with_unfolding_all refine TX_guard_no_t rfl rfl rfl ?_
                with_unfolding_all refine TX_guard_no_t rfl rfl rfl ?_
                with_unfolding_all refine TX_pick_f rfl rfl rfl ?_
                with_unfolding_all refine TX_move rfl ?_
                replace h137 := ite_f rfl h137
                obtain rfl := some_s h137
                with_unfolding_all refine TX_guard_no_t rfl rfl rfl ?_
                with_unfolding_all refine TX_guard_no_t rfl rfl rfl ?_
                with_unfolding_all refine TX_guard_no_t rfl rfl rfl ?_
                with_unfolding_all refine TX_guard_no_t rfl rfl rfl ?_
                with_unfolding_all refine TX_guard_no_t rfl rfl rfl ?_
                with_unfolding_all refine TX_guard_no_t rfl rfl rfl ?_
                with_unfolding_all refine TX_guard_no_t rfl rfl rfl ?_
                with_unfolding_all refine TX_guard_no_t rfl rfl rfl ?_
                with_unfolding_all refine TX_guard_no_t rfl rfl rfl ?_
                with_unfolding_all refine TX_guard_no_t rfl rfl rfl ?_
                with_unfolding_all refine TX_guard_no_t rfl rfl rfl ?_
                with_unfolding_all refine TX_pick_f rfl rfl rfl ?_
                with_unfolding_all refine TX_assign rfl ?_
                with_unfolding_all refine TX_nil ?_
                with_unfolding_all refine thenQ_normal ?_
                with_unfolding_all refine TE_ret ?_
                obtain rfl := some_s hF
                exact done_any (vs := [.bool (false)]) (.inr rfl) rfl (resR_tmp rfl resR_nil) ⟨rfl, hO206.ext⟩
            · skip
              replace h119 := ite_f hc199 h119
              obtain rfl := some_s h119
              with_unfolding_all refine TX_guard_no_t rfl rfl hc199 ?_
              with_unfolding_all refine TX_guard_no_t rfl rfl hc199 ?_
              with_unfolding_all refine TX_guard_no_t rfl rfl hc199 ?_
              with_unfolding_all refine TX_guard_no_t rfl rfl hc199 ?_
              with_unfolding_all refine TX_guard_no_t rfl rfl hc199 ?_
              with_unfolding_all refine TX_guard_no_t rfl rfl hc199 ?_
              with_unfolding_all refine TX_guard_no_t rfl rfl hc199 ?_
              with_unfolding_all refine TX_guard_no_t rfl rfl hc199 ?_
              with_unfolding_all refine TX_guard_no_t rfl rfl hc199 ?_
              with_unfolding_all refine TX_pick_f rfl hc199 rfl ?_
              with_unfolding_all refine TX_move rfl ?_
              replace h125 := ite_f rfl h125
              obtain rfl := some_s h125
              with_unfolding_all refine TX_guard_no_t rfl rfl rfl ?_
              with_unfolding_all refine TX_guard_no_t rfl rfl rfl ?_
              with_unfolding_all refine TX_guard_no_t rfl rfl rfl ?_
              with_unfolding_all refine TX_guard_no_t rfl rfl rfl ?_
              with_unfolding_all refine TX_guard_no_t rfl rfl rfl ?_
              with_unfolding_all refine TX_guard_no_t rfl rfl rfl ?_
              with_unfolding_all refine TX_guard_no_t rfl rfl rfl ?_
              with_unfolding_all refine TX_guard_no_t rfl rfl rfl ?_
              with_unfolding_all refine TX_guard_no_t rfl rfl rfl ?_
              with_unfolding_all refine TX_guard_no_t rfl rfl rfl ?_
              with_unfolding_all refine TX_guard_no_t rfl rfl rfl ?_
              with_unfolding_all refine TX_guard_no_t rfl rfl rfl ?_
              with_unfolding_all refine TX_pick_f rfl rfl rfl ?_
              with_unfolding_all refine TX_move rfl ?_
              replace h129 := ite_f rfl h129
              obtain rfl := some_s h129
              with_unfolding_all refine TX_guard_no_t rfl rfl rfl ?_
              with_unfolding_all refine TX_guard_no_t rfl rfl rfl ?_
              with_unfolding_all refine TX_guard_no_t rfl rfl rfl ?_
              with_unfolding_all refine TX_guard_no_t rfl rfl rfl ?_
              with_unfolding_all refine TX_guard_no_t rfl rfl rfl ?_
              with_unfolding_all refine TX_guard_no_t rfl rfl rfl ?_
              with_unfolding_all refine TX_pick_f rfl rfl rfl ?_
              with_unfolding_all refine TX_move rfl ?_
              replace h137 := ite_f rfl h137
              obtain rfl := some_s h137
              with_unfolding_all refine TX_guard_no_t rfl rfl rfl ?_
              with_unfolding_all refine TX_guard_no_t rfl rfl rfl ?_
              with_unfolding_all refine TX_guard_no_t rfl rfl rfl ?_
              with_unfolding_all refine TX_guard_no_t rfl rfl rfl ?_
              with_unfolding_all refine TX_guard_no_t rfl rfl rfl ?_
              with_unfolding_all refine TX_guard_no_t rfl rfl rfl ?_
              with_unfolding_all refine TX_guard_no_t rfl rfl rfl ?_
              with_unfolding_all refine TX_guard_no_t rfl rfl rfl ?_
              with_unfolding_all refine TX_guard_no_t rfl rfl rfl ?_
              with_unfolding_all refine TX_guard_no_t rfl rfl rfl ?_
              with_unfolding_all refine TX_guard_no_t rfl rfl rfl ?_
              with_unfolding_all refine TX_pick_f rfl rfl rfl ?_
              with_unfolding_all refine TX_assign rfl ?_
              with_unfolding_all refine TX_nil ?_
              with_unfolding_all refine thenQ_normal ?_
              with_unfolding_all refine TE_ret ?_
              obtain rfl := some_s hF
              exact done_any (vs := [.bool (false)]) (.inr rfl) rfl (resR_tmp rfl resR_nil) ⟨rfl, hO198.ext⟩
          · skip
            replace h115 := ite_f hc184 h115
            obtain rfl := some_s h115
            with_unfolding_all refine TX_guard_no_t rfl rfl hc184 ?_
            with_unfolding_all refine TX_guard_no_t rfl rfl hc184 ?_
            with_unfolding_all refine TX_guard_no_t rfl rfl hc184 ?_
            with_unfolding_all refine TX_guard_no_t rfl rfl hc184 ?_
            with_unfolding_all refine TX_guard_no_t rfl rfl hc184 ?_
            with_unfolding_all refine TX_pick_f rfl hc184 rfl ?_
            with_unfolding_all refine TX_move rfl ?_
            replace h119 := ite_f rfl h119
            obtain rfl := some_s h119
            with_unfolding_all refine TX_guard_no_t rfl rfl rfl ?_
            with_unfolding_all refine TX_guard_no_t rfl rfl rfl ?_
            with_unfolding_all refine TX_guard_no_t rfl rfl rfl ?_
            with_unfolding_all refine TX_guard_no_t rfl rfl rfl ?_
            with_unfolding_all refine TX_guard_no_t rfl rfl rfl ?_
            with_unfolding_all refine TX_guard_no_t rfl rfl rfl ?_
            with_unfolding_all refine TX_guard_no_t rfl rfl rfl ?_
            with_unfolding_all refine TX_guard_no_t rfl rfl rfl ?_
            with_unfolding_all refine TX_guard_no_t rfl rfl rfl ?_
            with_unfolding_all refine TX_guard_no_t rfl rfl rfl ?_
            with_unfolding_all refine TX_pick_f rfl rfl rfl ?_
            with_unfolding_all refine TX_move rfl ?_
            replace h125 := ite_f rfl h125
            obtain rfl := some_s h125
            with_unfolding_all refine TX_guard_no_t rfl rfl rfl ?_
            with_unfolding_all refine TX_guard_no_t rfl rfl rfl ?_
            with_unfolding_all refine TX_guard_no_t rfl rfl rfl ?_
            with_unfolding_all refine TX_guard_no_t rfl rfl rfl ?_
            with_unfolding_all refine TX_guard_no_t rfl rfl rfl ?_
            with_unfolding_all refine TX_guard_no_t rfl rfl rfl ?_
            with_unfolding_all refine TX_guard_no_t rfl rfl rfl ?_
            with_unfolding_all refine TX_guard_no_t rfl rfl rfl ?_
            with_unfolding_all refine TX_guard_no_t rfl rfl rfl ?_
            with_unfolding_all refine TX_guard_no_t rfl rfl rfl ?_
            with_unfolding_all refine TX_guard_no_t rfl rfl rfl ?_
            with_unfolding_all refine TX_guard_no_t rfl rfl rfl ?_
            with_unfolding_all refine TX_pick_f rfl rfl rfl ?_
            with_unfolding_all refine TX_move rfl ?_
            replace h129 := ite_f rfl h129
            obtain rfl := some_s h129
            with_unfolding_all refine TX_guard_no_t rfl rfl rfl ?_
            with_unfolding_all refine TX_guard_no_t rfl rfl rfl ?_
            with_unfolding_all refine TX_guard_no_t rfl rfl rfl ?_
            with_unfolding_all refine TX_guard_no_t rfl rfl rfl ?_
            with_unfolding_all refine TX_guard_no_t rfl rfl rfl ?_
            with_unfolding_all refine TX_guard_no_t rfl rfl rfl ?_
            with_unfolding_all refine TX_pick_f rfl rfl rfl ?_
            with_unfolding_all refine TX_move rfl ?_
            replace h137 := ite_f rfl h137
            obtain rfl := some_s h137
            with_unfolding_all refine TX_guard_no_t rfl rfl rfl ?_
            with_unfolding_all refine TX_guard_no_t rfl rfl rfl ?_
            with_unfolding_all refine TX_guard_no_t rfl rfl rfl ?_
            with_unfolding_all refine TX_guard_no_t rfl rfl rfl ?_
            with_unfolding_all refine TX_guard_no_t rfl rfl rfl ?_
            with_unfolding_all refine TX_guard_no_t rfl rfl rfl ?_
            with_unfolding_all refine TX_guard_no_t rfl rfl rfl ?_
            with_unfolding_all refine TX_guard_no_t rfl rfl rfl ?_
            with_unfolding_all refine TX_guard_no_t rfl rfl rfl ?_
            with_unfolding_all refine TX_guard_no_t rfl rfl rfl ?_
            with_unfolding_all refine TX_guard_no_t rfl rfl rfl ?_
            with_unfolding_all refine TX_pick_f rfl rfl rfl ?_
            with_unfolding_all refine TX_assign rfl ?_
            with_unfolding_all refine TX_nil ?_
            with_unfolding_all refine thenQ_normal ?_
            with_unfolding_all refine TE_ret ?_
            obtain rfl := some_s hF
            exact done_any (vs := [.bool (false)]) (.inr rfl) rfl (resR_tmp rfl resR_nil) ⟨rfl, hO183.ext⟩
        · skip
          replace h109 := ite_f hc169 h109
          obtain rfl := some_s h109
          with_unfolding_all refine TX_guard_no_t rfl rfl hc169 ?_
          with_unfolding_all refine TX_guard_no_t rfl rfl hc169 ?_
          with_unfolding_all refine TX_guard_no_t rfl rfl hc169 ?_
          with_unfolding_all refine TX_guard_no_t rfl rfl hc169 ?_
          with_unfolding_all refine TX_guard_no_t rfl rfl hc169 ?_
          with_unfolding_all refine TX_pick_f rfl hc169 rfl ?_
          with_unfolding_all refine TX_move rfl ?_
          replace h115 := ite_f rfl h115
          obtain rfl := some_s h115
          with_unfolding_all refine TX_guard_no_t rfl rfl rfl ?_
          with_unfolding_all refine TX_guard_no_t rfl rfl rfl ?_
          with_unfolding_all refine TX_guard_no_t rfl rfl rfl ?_
          with_unfolding_all refine TX_guard_no_t rfl rfl rfl ?_
          with_unfolding_all refine TX_guard_no_t rfl rfl rfl ?_
          with_unfolding_all refine TX_guard_no_t rfl rfl rfl ?_
          with_unfolding_all refine TX_pick_f rfl rfl rfl ?_
          with_unfolding_all refine TX_move rfl ?_
          replace h119 := ite_f rfl h119
          obtain rfl := some_s h119
          with_unfolding_all refine TX_guard_no_t rfl rfl rfl ?_
          with_unfolding_all refine TX_guard_no_t rfl rfl rfl ?_
          with_unfolding_all refine TX_guard_no_t rfl rfl rfl ?_
          with_unfolding_all refine TX_guard_no_t rfl rfl rfl ?_
          with_unfolding_all refine TX_guard_no_t rfl rfl rfl ?_
          with_unfolding_all refine TX_guard_no_t rfl rfl rfl ?_
          with_unfolding_all refine TX_guard_no_t rfl rfl rfl ?_
          with_unfolding_all refine TX_guard_no_t rfl rfl rfl ?_
          with_unfolding_all refine TX_guard_no_t rfl rfl rfl ?_
          with_unfolding_all refine TX_guard_no_t rfl rfl rfl ?_
          with_unfolding_all refine TX_pick_f rfl rfl rfl ?_
          with_unfolding_all refine TX_move rfl ?_
          replace h125 := ite_f rfl h125
          obtain rfl := some_s h125
          with_unfolding_all refine TX_guard_no_t rfl rfl rfl ?_
          with_unfolding_all refine TX_guard_no_t rfl rfl rfl ?_
          with_unfolding_all refine TX_guard_no_t rfl rfl rfl ?_
          with_unfolding_all refine TX_guard_no_t rfl rfl rfl ?_
          with_unfolding_all refine TX_guard_no_t rfl rfl rfl ?_
          with_unfolding_all refine TX_guard_no_t rfl rfl rfl ?_
          with_unfolding_all refine TX_guard_no_t rfl rfl rfl ?_
          with_unfolding_all refine TX_guard_no_t rfl rfl rfl ?_
          with_unfolding_all refine TX_guard_no_t rfl rfl rfl ?_
          with_unfolding_all refine TX_guard_no_t rfl rfl rfl ?_
          with_unfolding_all refine TX_guard_no_t rfl rfl rfl ?_
          with_unfolding_all refine TX_guard_no_t rfl rfl rfl ?_
          with_unfolding_all refine TX_pick_f rfl rfl rfl ?_
          with_unfolding_all refine TX_move rfl ?_
          replace h129 := ite_f rfl h129
          obtain rfl := some_s h129
          with_unfolding_all refine TX_guard_no_t rfl rfl rfl ?_
          with_unfolding_all refine TX_guard_no_t rfl rfl rfl ?_
          with_unfolding_all refine TX_guard_no_t rfl rfl rfl ?_
          with_unfolding_all refine TX_guard_no_t rfl rfl rfl ?_
          with_unfolding_all refine TX_guard_no_t rfl rfl rfl ?_
          with_unfolding_all refine TX_guard_no_t rfl rfl rfl ?_
          with_unfolding_all refine TX_pick_f rfl rfl rfl ?_
          with_unfolding_all refine TX_move rfl ?_
          replace h137 := ite_f rfl h137
          obtain rfl := some_s h137
          with_unfolding_all refine TX_guard_no_t rfl rfl rfl ?_
          with_unfolding_all refine TX_guard_no_t rfl rfl rfl ?_
          with_unfolding_all refine TX_guard_no_t rfl rfl rfl ?_
          with_unfolding_all refine TX_guard_no_t rfl rfl rfl ?_
          with_unfolding_all refine TX_guard_no_t rfl rfl rfl ?_
          with_unfolding_all refine TX_guard_no_t rfl rfl rfl ?_
          with_unfolding_all refine TX_guard_no_t rfl rfl rfl ?_
          with_unfolding_all refine TX_guard_no_t rfl rfl rfl ?_
          with_unfolding_all refine TX_guard_no_t rfl rfl rfl ?_
          with_unfolding_all refine TX_guard_no_t rfl rfl rfl ?_
          with_unfolding_all refine TX_guard_no_t rfl rfl rfl ?_
          with_unfolding_all refine TX_pick_f rfl rfl rfl ?_
          with_unfolding_all refine TX_assign rfl ?_
          with_unfolding_all refine TX_nil ?_
          with_unfolding_all refine thenQ_normal ?_
          with_unfolding_all refine TE_ret ?_
          obtain rfl := some_s hF
          exact done_any (vs := [.bool (false)]) (.inr rfl) rfl (resR_tmp rfl resR_nil) ⟨rfl, hO168.ext⟩
      · skip
        replace h103 := ite_f hc154 h103
        obtain rfl := some_s h103
        with_unfolding_all refine TX_guard_no_t rfl rfl hc154 ?_
        with_unfolding_all refine TX_guard_no_t rfl rfl hc154 ?_
        with_unfolding_all refine TX_guard_no_t rfl rfl hc154 ?_
        with_unfolding_all refine TX_guard_no_t rfl rfl hc154 ?_
        with_unfolding_all refine TX_guard_no_t rfl rfl hc154 ?_
        with_unfolding_all refine TX_guard_no_t rfl rfl hc154 ?_
        with_unfolding_all refine TX_pick_f rfl hc154 rfl ?_
        with_unfolding_all refine TX_move rfl ?_
        replace h109 := ite_f rfl h109
        obtain rfl := some_s h109
        with_unfolding_all refine TX_guard_no_t rfl rfl rfl ?_
        with_unfolding_all refine TX_guard_no_t rfl rfl rfl ?_
        with_unfolding_all refine TX_guard_no_t rfl rfl rfl ?_
        with_unfolding_all refine TX_guard_no_t rfl rfl rfl ?_
        with_unfolding_all refine TX_guard_no_t rfl rfl rfl ?_
        with_unfolding_all refine TX_guard_no_t rfl rfl rfl ?_
        with_unfolding_all refine TX_pick_f rfl rfl rfl ?_
        with_unfolding_all refine TX_move rfl ?_
        replace h115 := ite_f rfl h115
        obtain rfl := some_s h115
        with_unfolding_all refine TX_guard_no_t rfl rfl rfl ?_
        with_unfolding_all refine TX_guard_no_t rfl rfl rfl ?_
        with_unfolding_all refine TX_guard_no_t rfl rfl rfl ?_
        with_unfolding_all refine TX_guard_no_t rfl rfl rfl ?_
        with_unfolding_all refine TX_guard_no_t rfl rfl rfl ?_
        with_unfolding_all refine TX_guard_no_t rfl rfl rfl ?_
        with_unfolding_all refine TX_pick_f rfl rfl rfl ?_
        with_unfolding_all refine TX_move rfl ?_
        replace h119 := ite_f rfl h119
        obtain rfl := some_s h119
        with_unfolding_all refine TX_guard_no_t rfl rfl rfl ?_
        with_unfolding_all refine TX_guard_no_t rfl rfl rfl ?_
        with_unfolding_all refine TX_guard_no_t rfl rfl rfl ?_
        with_unfolding_all refine TX_guard_no_t rfl rfl rfl ?_
        with_unfolding_all refine TX_guard_no_t rfl rfl rfl ?_
        with_unfolding_all refine TX_guard_no_t rfl rfl rfl ?_
        with_unfolding_all refine TX_guard_no_t rfl rfl rfl ?_
        with_unfolding_all refine TX_guard_no_t rfl rfl rfl ?_
        with_unfolding_all refine TX_guard_no_t rfl rfl rfl ?_
        with_unfolding_all refine TX_guard_no_t rfl rfl rfl ?_
        with_unfolding_all refine TX_pick_f rfl rfl rfl ?_
        with_unfolding_all refine TX_move rfl ?_
        replace h125 := ite_f rfl h125
        obtain rfl := some_s h125
        with_unfolding_all refine TX_guard_no_t rfl rfl rfl ?_
        with_unfolding_all refine TX_guard_no_t rfl rfl rfl ?_
        with_unfolding_all refine TX_guard_no_t rfl rfl rfl ?_
        with_unfolding_all refine TX_guard_no_t rfl rfl rfl ?_
        with_unfolding_all refine TX_guard_no_t rfl rfl rfl ?_
        with_unfolding_all refine TX_guard_no_t rfl rfl rfl ?_
        with_unfolding_all refine TX_guard_no_t rfl rfl rfl ?_
        with_unfolding_all refine TX_guard_no_t rfl rfl rfl ?_
        with_unfolding_all refine TX_guard_no_t rfl rfl rfl ?_
        with_unfolding_all refine TX_guard_no_t rfl rfl rfl ?_
        with_unfolding_all refine TX_guard_no_t rfl rfl rfl ?_
        with_unfolding_all refine TX_guard_no_t rfl rfl rfl ?_
        with_unfolding_all refine TX_pick_f rfl rfl rfl ?_
        with_unfolding_all refine TX_move rfl ?_
        replace h129 := ite_f rfl h129
        obtain rfl := some_s h129
        with_unfolding_all refine TX_guard_no_t rfl rfl rfl ?_
        with_unfolding_all refine TX_guard_no_t rfl rfl rfl ?_
        with_unfolding_all refine TX_guard_no_t rfl rfl rfl ?_
        with_unfolding_all refine TX_guard_no_t rfl rfl rfl ?_
        with_unfolding_all refine TX_guard_no_t rfl rfl rfl ?_
        with_unfolding_all refine TX_guard_no_t rfl rfl rfl ?_
        with_unfolding_all refine TX_pick_f rfl rfl rfl ?_
        with_unfolding_all refine TX_move rfl ?_
        replace h137 := ite_f rfl h137
        obtain rfl := some_s h137
        with_unfolding_all refine TX_guard_no_t rfl rfl rfl ?_
        with_unfolding_all refine TX_guard_no_t rfl rfl rfl ?_
        with_unfolding_all refine TX_guard_no_t rfl rfl rfl ?_
        with_unfolding_all refine TX_guard_no_t rfl rfl rfl ?_
        with_unfolding_all refine TX_guard_no_t rfl rfl rfl ?_
        with_unfolding_all refine TX_guard_no_t rfl rfl rfl ?_
        with_unfolding_all refine TX_guard_no_t rfl rfl rfl ?_
        with_unfolding_all refine TX_guard_no_t rfl rfl rfl ?_
        with_unfolding_all refine TX_guard_no_t rfl rfl rfl ?_
        with_unfolding_all refine TX_guard_no_t rfl rfl rfl ?_
        with_unfolding_all refine TX_guard_no_t rfl rfl rfl ?_
        with_unfolding_all refine TX_pick_f rfl rfl rfl ?_
        with_unfolding_all refine TX_assign rfl ?_
        with_unfolding_all refine TX_nil ?_
        with_unfolding_all refine thenQ_normal ?_
        with_unfolding_all refine TE_ret ?_
        obtain rfl := some_s hF
        exact done_any (vs := [.bool (false)]) (.inr rfl) rfl (resR_tmp rfl resR_nil) ⟨rfl, hO153.ext⟩
end Go.Proofs.Ytihbdelgoapeoaa.K
