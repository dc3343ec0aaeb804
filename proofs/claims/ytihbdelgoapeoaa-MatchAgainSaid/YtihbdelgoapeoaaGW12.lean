/- Walks. Printed. -/
import Derived.Test.YtihbdelgoapeoaaGW11
namespace Go.Proofs.Ytihbdelgoapeoaa.K
open Go Go.RowKit F
set_option maxRecDepth 100000
set_option maxHeartbeats 4000000
set_option linter.unusedVariables false
set_option linter.unusedSimpArgs false
theorem match_Text_wide_ok {x0_ : match_Text} {x1_ : Int} {x2_ : (List match_Span)} {y : Int} (hF : F.match_Text_wide x0_ x1_ x2_ = some y) {v0_ : AV} {v1_ : AV} {v2_ : AV} {σ : Mem} (h0_ : e_match_Text.rel v0_ x0_) (h1_ : (eI .i64).rel v1_ x1_) (h2_ : (RS e_match_Span) v2_ x2_)  :
    CallE Try.prog 76 [v0_, v1_, v2_] σ (fun v σ' => (eI .i64).rel v y ∧ Ext σ σ') := by
  unfold F.match_Text_wide at hF
  obtain ⟨u1, u3, rfl, h2, h4⟩ := h0_
  obtain rfl := h1_
  refine CallE_of Try.func76 rfl Try.ntmps76 (by simp) ?_
  have hO0 := Own.start σ
  with_unfolding_all refine TE_seq ?_
  with_unfolding_all refine TE_seqY ?_
  have hM5 := MB_none σ
  with_unfolding_all refine TY_box hO0 hM5 rfl rfl ?_
  rintro id6 s7 (hO8 : Own σ [] s7 [.obj id6 [.int .i64 (x0_.From), .int .i64 (x0_.To), u1, u3]]) hM9
  with_unfolding_all refine TX_assign rfl ?_
  with_unfolding_all refine TX_nil ?_
  with_unfolding_all refine thenQ_normal ?_
  with_unfolding_all refine TE_seq ?_
  with_unfolding_all refine TE_seq ?_
  with_unfolding_all refine TE_seqY ?_
  have hM10 := MB_none s7
  with_unfolding_all refine TX_move rfl ?_
  with_unfolding_all refine TY_len rfl rfl rfl rfl h2_ rfl ?_
  with_unfolding_all refine TX_cmp rfl rfl rfl ?_
  with_unfolding_all refine TX_nil ?_
  with_unfolding_all refine thenQ_normal ?_
  with_unfolding_all refine TE_cond rfl (fun hc11 => ?_) (fun hc11 => ?_)
  · skip
    replace hF := ite_t hc11 hF
    with_unfolding_all refine TE_seq ?_
    with_unfolding_all refine TE_seqY ?_
    have hM12 := MB_none s7
    with_unfolding_all refine TX_assign rfl ?_
    with_unfolding_all refine TX_nil ?_
    with_unfolding_all refine thenQ_normal ?_
    with_unfolding_all refine TE_ret ?_
    with_unfolding_all refine thenQ_ret ?_
    obtain rfl := some_s hF
    exact done_any (vs := [.int .i64 (0)]) (.inr rfl) rfl (resR_tmp rfl resR_nil) ⟨rfl, hO8.ext⟩
  · skip
    replace hF := ite_f hc11 hF
    with_unfolding_all refine TE_skip ?_
    with_unfolding_all refine thenQ_normal ?_
    with_unfolding_all refine TE_seq ?_
    obtain ⟨x13, h14, hF⟩ := bind_s hF
    obtain ⟨x15, h16, hF⟩ := bind_s hF
    obtain ⟨x17, h18, hF⟩ := bind_s hF
    obtain ⟨x19, h20, hF⟩ := bind_s hF
    have hB21 : Bs [(id6, [.int .i64 (x0_.From), .int .i64 (x0_.To), u1, u3])] s7 := Bs.cons (hO8.obj 0 rfl) (Bs.nil _)
    with_unfolding_all refine TE_drawY [(id6, [.int .i64 (x0_.From), .int .i64 (x0_.To), u1, u3])] (by with_unfolding_all rfl) (by kernel_rfl) hB21 ?_
    have hM22 := MB_some hB21
    with_unfolding_all refine TX_load_p rfl (MC_some 0 rfl) rfl ?_
    with_unfolding_all refine TX_move rfl ?_
    with_unfolding_all refine TX_move rfl ?_
    with_unfolding_all refine TY_idx (E := e_match_Span) rfl rfl rfl h2_ rfl h14 ?_
    intro u23 h24
    obtain rfl := h24
    with_unfolding_all refine TX_fieldAddr_c rfl rfl rfl ?_
    with_unfolding_all refine TX_load_c rfl rfl ?_
    have hc25 : CallE Try.prog 43 [.agg [.int .i64 (x0_.From), .int .i64 (x0_.To), u1, u3], .int .i64 (x1_), .int .i64 (x13.From)] s7 _ := match_Text_Rank_ok h16 ⟨u1, u3, rfl, h2, h4⟩ rfl rfl
    with_unfolding_all refine TY_call hM22 rfl en43 hc25 ?_
    intro v26 s30 hv27 hX28 hM29
    have hO31 := hO8.ext_call hX28
    obtain rfl := hv27
    with_unfolding_all refine TX_load_p rfl (MC_some 0 rfl) rfl ?_
    with_unfolding_all refine TX_move rfl ?_
    with_unfolding_all refine TX_move rfl ?_
    with_unfolding_all refine TY_idx (E := e_match_Span) rfl rfl rfl h2_ rfl h18 ?_
    intro u32 h33
    obtain rfl := h33
    with_unfolding_all refine TX_fieldAddr_c rfl rfl rfl ?_
    with_unfolding_all refine TX_load_c rfl rfl ?_
    have hc34 : CallE Try.prog 43 [.agg [.int .i64 (x0_.From), .int .i64 (x0_.To), u1, u3], .int .i64 (x1_), .int .i64 (x17.To)] s30 _ := match_Text_Rank_ok h20 ⟨u1, u3, rfl, h2, h4⟩ rfl rfl
    with_unfolding_all refine TY_call hM29 rfl en43 hc34 ?_
    intro v35 s39 hv36 hX37 hM38
    have hO40 := hO31.ext_call hX37
    obtain rfl := hv36
    with_unfolding_all refine TX_assign rfl ?_
    with_unfolding_all refine TX_assign rfl ?_
    with_unfolding_all refine TX_nil ?_
    with_unfolding_all refine thenQ_normal ?_
    with_unfolding_all refine TE_seq ?_
    with_unfolding_all refine TE_seq ?_
    with_unfolding_all refine TE_seqY ?_
    have hM41 := MB_none s39
    with_unfolding_all refine TX_move rfl ?_
    with_unfolding_all refine TY_len rfl rfl rfl rfl h2_ rfl ?_
    with_unfolding_all refine TX_move rfl ?_
    with_unfolding_all refine TX_nil ?_
    with_unfolding_all refine thenQ_normal ?_
    with_unfolding_all refine TE_block ?_
    obtain ⟨p46, h50, hF⟩ := bind_s hF
    refine TE_iter (f := F.match_Text_wide_s1 x0_ x1_ x2_) (s0 := (x15, x19, 0)) (a := p46) (fun (q42 : (Int × Int × Int)) z => ∃ (s44 : Mem), Own σ [] s44 [.obj id6 [.int .i64 (x0_.From), .int .i64 (x0_.To), u1, u3]] ∧ Le z ⟨fr 53 [(1, .int .i64 (x1_)), (3, .ptr id6 0), (7, .int .i64 (q42.1)), (8, .int .i64 (q42.2.1)), (28, v2_), (29, .int .i64 ((x2_.length : Int))), (30, .int .i64 (q42.2.2))], [], s44⟩) (fun (p46 : (Int × Int)) e z => (e = .exit 0 ∧ ∃ (s47 : Mem), Own σ [] s47 [.obj id6 [.int .i64 (x0_.From), .int .i64 (x0_.To), u1, u3]] ∧ Le z ⟨fr 53 [(7, .int .i64 (p46.1)), (8, .int .i64 (p46.2))], [], s47⟩)) h50 ?_ ?_ ?_
    · skip
      exact ⟨s39, (hO40.sub 1 rfl), (Le_fr ⟨rfl, ⟨rfl, ⟨rfl, ⟨rfl, ⟨rfl, ⟨rfl, ⟨rfl, trivial⟩⟩⟩⟩⟩⟩⟩)⟩
    · skip
      clear hF
      rintro q42 zq42 r43 ⟨s44, hO45, hz51⟩ hF
      unfold F.match_Text_wide_s1 at hF
      refine TE_pre hz51 ?_
      with_unfolding_all refine TE_seq ?_
      with_unfolding_all refine TE_seqY ?_
      have hM52 := MB_none s44
      with_unfolding_all refine TX_cmp rfl rfl rfl ?_
      with_unfolding_all refine TX_nil ?_
      with_unfolding_all refine thenQ_normal ?_
      with_unfolding_all refine TE_seq ?_
      with_unfolding_all refine TE_cond rfl (fun hc53 => ?_) (fun hc53 => ?_)
      · skip
        replace hF := ite_t hc53 hF
        with_unfolding_all refine TE_skip ?_
        with_unfolding_all refine thenQ_normal ?_
        with_unfolding_all refine TE_seq ?_
        with_unfolding_all refine TE_block ?_
        with_unfolding_all refine TE_seq ?_
        obtain ⟨x54, h55, hF⟩ := bind_s hF
        with_unfolding_all refine TE_seqY ?_
        have hM56 := MB_none s44
        with_unfolding_all refine TY_idx (E := e_match_Span) rfl rfl rfl h2_ rfl h55 ?_
        intro u57 h58
        obtain rfl := h58
        with_unfolding_all refine TX_load_c rfl rfl ?_
        with_unfolding_all refine TY_alloc hO45 hM56 rfl rfl ?_
        rintro id59 s60 (hO61 : Own σ [] s60 [.obj id59 [.int .i64 (0), .int .i64 (0), .int .i64 (0), .int .i64 (0)], .obj id6 [.int .i64 (x0_.From), .int .i64 (x0_.To), u1, u3]]) hM62
        with_unfolding_all refine TY_store (v := .agg [.int .i64 (x54.From), .int .i64 (x54.To), .int .i64 (x54.Part), .int .i64 (x54.Weight)]) (vc := [.int .i64 (x54.From), .int .i64 (x54.To), .int .i64 (x54.Part), .int .i64 (x54.Weight)]) hO61 hM62 (MNe.none _) rfl rfl rfl rfl (by with_unfolding_all exact Nat.le_of_ble_eq_true rfl) (ones_cons rfl (ones_cons rfl (ones_cons rfl (ones_cons rfl ones_nil)))) rfl ?_
        rintro s63 (hO64 : Own σ [] s63 [.obj id59 [.int .i64 (x54.From), .int .i64 (x54.To), .int .i64 (x54.Part), .int .i64 (x54.Weight)], .obj id6 [.int .i64 (x0_.From), .int .i64 (x0_.To), u1, u3]]) hM65
        with_unfolding_all refine TX_nil ?_
        with_unfolding_all refine thenQ_normal ?_
        obtain ⟨x66, h67, hF⟩ := bind_s hF
        obtain ⟨x68, h69, hF⟩ := bind_s hF
        have hB70 : Bs [(id6, [.int .i64 (x0_.From), .int .i64 (x0_.To), u1, u3]), (id59, [.int .i64 (x54.From), .int .i64 (x54.To), .int .i64 (x54.Part), .int .i64 (x54.Weight)])] s63 := Bs.cons (hO64.obj 1 rfl) (Bs.cons (hO64.obj 0 rfl) (Bs.nil _))
        with_unfolding_all refine TE_drawY [(id6, [.int .i64 (x0_.From), .int .i64 (x0_.To), u1, u3]), (id59, [.int .i64 (x54.From), .int .i64 (x54.To), .int .i64 (x54.Part), .int .i64 (x54.Weight)])] (by with_unfolding_all rfl) (by kernel_rfl) hB70 ?_
        have hM71 := MB_some hB70
        with_unfolding_all refine TX_move rfl ?_
        with_unfolding_all refine TX_load_p rfl (MC_some 0 rfl) rfl ?_
        with_unfolding_all refine TX_move rfl ?_
        with_unfolding_all refine TX_fieldAddr_p rfl rfl rfl ?_
        with_unfolding_all refine TX_load_p rfl (MC_some 1 rfl) rfl ?_
        have hc72 : CallE Try.prog 43 [.agg [.int .i64 (x0_.From), .int .i64 (x0_.To), u1, u3], .int .i64 (x1_), .int .i64 (x54.From)] s63 _ := match_Text_Rank_ok h67 ⟨u1, u3, rfl, h2, h4⟩ rfl rfl
        with_unfolding_all refine TY_call hM71 rfl en43 hc72 ?_
        intro v73 s77 hv74 hX75 hM76
        have hO78 := hO64.ext_call hX75
        obtain rfl := hv74
        with_unfolding_all refine TX_min rfl rfl rfl rfl ?_
        with_unfolding_all refine TX_move rfl ?_
        with_unfolding_all refine TX_load_p rfl (MC_some 0 rfl) rfl ?_
        with_unfolding_all refine TX_move rfl ?_
        with_unfolding_all refine TX_fieldAddr_p rfl rfl rfl ?_
        with_unfolding_all refine TX_load_p rfl (MC_some 1 rfl) rfl ?_
        have hc79 : CallE Try.prog 43 [.agg [.int .i64 (x0_.From), .int .i64 (x0_.To), u1, u3], .int .i64 (x1_), .int .i64 (x54.To)] s77 _ := match_Text_Rank_ok h69 ⟨u1, u3, rfl, h2, h4⟩ rfl rfl
        with_unfolding_all refine TY_call hM76 rfl en43 hc79 ?_
        intro v80 s84 hv81 hX82 hM83
        have hO85 := hO78.ext_call hX82
        obtain rfl := hv81
        with_unfolding_all refine TX_max rfl rfl rfl rfl ?_
        with_unfolding_all refine TX_assign rfl ?_
        with_unfolding_all refine TX_assign rfl ?_
        with_unfolding_all refine TX_nil ?_
        with_unfolding_all refine blockQ_normal ?_
        with_unfolding_all refine thenQ_normal ?_
        with_unfolding_all refine TE_seqY ?_
        have hM86 := MB_none s84
        with_unfolding_all refine TX_ari rfl rfl rfl ?_
        with_unfolding_all refine TX_move rfl ?_
        with_unfolding_all refine TX_nil ?_
        obtain rfl := some_s hF
        have hO87 : Own σ [] s84 [.obj id6 [.int .i64 (x0_.From), .int .i64 (x0_.To), u1, u3], .obj id59 [.int .i64 (x54.From), .int .i64 (x54.To), .int .i64 (x54.Part), .int .i64 (x54.Weight)]] := hO85.front 1 rfl rfl
        exact iterQ_again ⟨s84, (hO87.sub 1 rfl), (Le_fr ⟨rfl, ⟨rfl, ⟨rfl, ⟨rfl, ⟨rfl, ⟨rfl, ⟨rfl, trivial⟩⟩⟩⟩⟩⟩⟩)⟩
      · skip
        replace hF := ite_f hc53 hF
        with_unfolding_all refine TE_exit ?_
        with_unfolding_all refine thenQ_exit ?_
        obtain rfl := some_s hF
        exact iterQ_exit (⟨rfl, s44, (hO45.sub 1 rfl), (Le_fr ⟨rfl, ⟨rfl, trivial⟩⟩)⟩)
    · skip
      rintro eq42 zq42 (⟨rfl, s47, hO48, hz88⟩)
      with_unfolding_all refine blockQ_out ?_
      with_unfolding_all refine thenQ_normal ?_
      refine TE_pre hz88 ?_
      with_unfolding_all refine TE_seq ?_
      with_unfolding_all refine TE_seqY ?_
      have hM89 := MB_none s47
      with_unfolding_all refine TX_move rfl ?_
      with_unfolding_all refine TX_move rfl ?_
      with_unfolding_all refine TX_ari rfl rfl rfl ?_
      with_unfolding_all refine TX_ari rfl rfl rfl ?_
      with_unfolding_all refine TX_assign rfl ?_
      with_unfolding_all refine TX_nil ?_
      with_unfolding_all refine thenQ_normal ?_
      with_unfolding_all refine TE_ret ?_
      obtain rfl := some_s hF
      exact done_any (vs := [.int .i64 ((IntKind.wrap .i64 ((IntKind.wrap .i64 (p46.2 - p46.1)) + 1)))]) (.inr rfl) rfl (resR_tmp rfl resR_nil) ⟨rfl, hO48.ext⟩
theorem match_Text_Window_1_1_ok {x0_ : match_Span} {c0_ : match_Text} {c1_ : Int} {c2_ : match_Match} {c3_ : Int} {y : Bool} (hF : F.match_Text_Window_1_1 x0_ c0_ c1_ c2_ c3_ = some y) {v0_ : AV} {σ : Mem} (h0_ : e_match_Span.rel v0_ x0_) {d0_ : Nat} {w0_ : AV} (k0_ : e_match_Text.rel w0_ c0_) (m0_ : σ[d0_]? = some (.cells w0_.cells)) {d1_ : Nat} {w1_ : AV} (k1_ : (eI .i64).rel w1_ c1_) (m1_ : σ[d1_]? = some (.cells w1_.cells)) {d2_ : Nat} {w2_ : AV} (k2_ : e_match_Match.rel w2_ c2_) (m2_ : σ[d2_]? = some (.cells w2_.cells)) {d3_ : Nat} {w3_ : AV} (k3_ : (eI .i64).rel w3_ c3_) (m3_ : σ[d3_]? = some (.cells w3_.cells)) :
    CallE Try.prog 75 [v0_, .ptr d0_ 0, .ptr d1_ 0, .ptr d2_ 0, .ptr d3_ 0] σ (fun v σ' => eB.rel v y ∧ Ext σ σ') := by
  unfold F.match_Text_Window_1_1 at hF
  obtain rfl := h0_
  obtain ⟨u1, u3, rfl, h2, h4⟩ := k0_
  obtain rfl := k1_
  obtain ⟨u5, u7, rfl, h6, h8⟩ := k2_
  obtain rfl := k3_
  refine CallE_of Try.func75 rfl Try.ntmps75 (by simp) ?_
  have hO0 := Own.start σ
  with_unfolding_all refine TE_seq ?_
  with_unfolding_all refine TE_seqY ?_
  have hM9 := MB_none σ
  with_unfolding_all refine TY_box hO0 hM9 rfl rfl ?_
  rintro id10 s11 (hO12 : Own σ [] s11 [.obj id10 [.int .i64 (x0_.From), .int .i64 (x0_.To), .int .i64 (x0_.Part), .int .i64 (x0_.Weight)]]) hM13
  with_unfolding_all refine TX_assign rfl ?_
  with_unfolding_all refine TX_nil ?_
  with_unfolding_all refine thenQ_normal ?_
  with_unfolding_all refine TE_seq ?_
  obtain ⟨x14, h15, hF⟩ := bind_s hF
  obtain ⟨x16, h17, hF⟩ := bind_s hF
  obtain ⟨x18, h19, hF⟩ := bind_s hF
  have hB20 : Bs [(d0_, [.int .i64 (c0_.From), .int .i64 (c0_.To), u1, u3]), (d1_, [.int .i64 (c1_)]), (d2_, [u5, u7]), (id10, [.int .i64 (x0_.From), .int .i64 (x0_.To), .int .i64 (x0_.Part), .int .i64 (x0_.Weight)]), (d3_, [.int .i64 (c3_)])] s11 := Bs.cons (hO12.get0 m0_ (List.not_mem_nil)) (Bs.cons (hO12.get0 m1_ (List.not_mem_nil)) (Bs.cons (hO12.get0 m2_ (List.not_mem_nil)) (Bs.cons (hO12.obj 0 rfl) (Bs.cons (hO12.get0 m3_ (List.not_mem_nil)) (Bs.nil _)))))
  with_unfolding_all refine TE_drawY [(d0_, [.int .i64 (c0_.From), .int .i64 (c0_.To), u1, u3]), (d1_, [.int .i64 (c1_)]), (d2_, [u5, u7]), (id10, [.int .i64 (x0_.From), .int .i64 (x0_.To), .int .i64 (x0_.Part), .int .i64 (x0_.Weight)]), (d3_, [.int .i64 (c3_)])] (by with_unfolding_all rfl) (by kernel_rfl) hB20 ?_
  have hM21 := MB_some hB20
  with_unfolding_all refine TX_load_p rfl (MC_some 0 rfl) rfl ?_
  with_unfolding_all refine TX_load_p rfl (MC_some 1 rfl) rfl ?_
  with_unfolding_all refine TX_fieldAddr_p rfl rfl rfl ?_
  with_unfolding_all refine TX_load_p rfl (MC_some 2 rfl) rfl ?_
  have hc22 : CallE Try.prog 77 [u5] s11 _ := slices_Clone_match_Span_match_Span_ok h15 h6
  with_unfolding_all refine TY_callN hM21 rfl en77 hc22 (fun _ _ h => ⟨_, h.2⟩) ?_
  rintro v23 s27 ⟨hv24, hX25⟩ hM26
  have hO28 : Own σ [] s27 [.buf v23, .obj id10 [.int .i64 (x0_.From), .int .i64 (x0_.To), .int .i64 (x0_.Part), .int .i64 (x0_.Weight)]] := Own.call (A := []) hO12 hX25
  with_unfolding_all refine TX_load_p rfl (MC_some 3 rfl) rfl ?_
  have h29 : All2 e_match_Span.rel ([.agg [.int .i64 (x0_.From), .int .i64 (x0_.To), .int .i64 (x0_.Part), .int .i64 (x0_.Weight)]] : List AV) ([x0_] : (List match_Span)) := ⟨rfl, trivial⟩
  with_unfolding_all refine TY_buildSlice rfl rfl rfl rfl rfl h29 rfl (by decide) (by with_unfolding_all exact Nat.le_of_ble_eq_true rfl) ?_
  have h30 : RS e_match_Span (.sl [.agg [.int .i64 (x0_.From), .int .i64 (x0_.To), .int .i64 (x0_.Part), .int .i64 (x0_.Weight)]] .full) ([x0_] : (List match_Span)) := RS.of h29
  with_unfolding_all refine TY_append appT25_25 hO28 hM26 rfl rfl rfl rfl hv24 rfl h30 h17 ?_
  rintro u31 s33 (h32 : RS e_match_Span u31 x16) (hO34 : Own σ [] s33 [.buf u31, .obj id10 [.int .i64 (x0_.From), .int .i64 (x0_.To), .int .i64 (x0_.Part), .int .i64 (x0_.Weight)]]) hM35
  have hc36 : CallE Try.prog 76 [.agg [.int .i64 (c0_.From), .int .i64 (c0_.To), u1, u3], .int .i64 (c1_), u31] s33 _ := match_Text_wide_ok h19 ⟨u1, u3, rfl, h2, h4⟩ rfl h32
  with_unfolding_all refine TY_call hM35 rfl en76 hc36 ?_
  intro v37 s41 hv38 hX39 hM40
  have hO42 := hO34.ext_call hX39
  obtain rfl := hv38
  with_unfolding_all refine TX_load_p rfl (MC_some 4 rfl) rfl ?_
  with_unfolding_all refine TX_cmp rfl rfl rfl ?_
  with_unfolding_all refine TX_assign rfl ?_
  with_unfolding_all refine TX_nil ?_
  with_unfolding_all refine thenQ_normal ?_
  with_unfolding_all refine TE_ret ?_
  obtain rfl := some_s hF
  exact done_any (vs := [.bool ((decide (x18 ≤ c3_)))]) (.inr rfl) rfl (resR_tmp rfl resR_nil) ⟨rfl, hO42.ext⟩
theorem match_Text_Window_1_ok {x0_ : match_Match} {c0_ : match_Text} {c1_ : Int} {c2_ : Int} {y : (match_Match × Bool)} (hF : F.match_Text_Window_1 x0_ c0_ c1_ c2_ = some y) {v0_ : AV} {σ : Mem} (h0_ : e_match_Match.rel v0_ x0_) {d0_ : Nat} {w0_ : AV} (k0_ : e_match_Text.rel w0_ c0_) (m0_ : σ[d0_]? = some (.cells w0_.cells)) {d1_ : Nat} {w1_ : AV} (k1_ : (eI .i64).rel w1_ c1_) (m1_ : σ[d1_]? = some (.cells w1_.cells)) {d2_ : Nat} {w2_ : AV} (k2_ : (eI .i64).rel w2_ c2_) (m2_ : σ[d2_]? = some (.cells w2_.cells)) :
    CallE Try.prog 74 [v0_, .ptr d0_ 0, .ptr d1_ 0, .ptr d2_ 0] σ (fun v σ' => (R2 e_match_Match.rel eB.rel) v y ∧ Ext σ σ') := by
  unfold F.match_Text_Window_1 at hF
  obtain ⟨u1, u3, rfl, h2, h4⟩ := h0_
  obtain ⟨u5, u7, rfl, h6, h8⟩ := k0_
  obtain rfl := k1_
  obtain rfl := k2_
  refine CallE_of Try.func74 rfl Try.ntmps74 (by simp) ?_
  have hO0 := Own.start σ
  with_unfolding_all refine TE_seq ?_
  with_unfolding_all refine TE_seqY ?_
  have hM9 := MB_none σ
  with_unfolding_all refine TY_box hO0 hM9 rfl rfl ?_
  rintro id10 s11 (hO12 : Own σ [] s11 [.obj id10 [u1, u3]]) hM13
  with_unfolding_all refine TY_alloc hO12 hM13 rfl rfl ?_
  rintro id14 s15 (hO16 : Own σ [] s15 [.obj id14 [.nils, .nils], .obj id10 [u1, u3]]) hM17
  with_unfolding_all refine TX_assign rfl ?_
  with_unfolding_all refine TX_nil ?_
  with_unfolding_all refine thenQ_normal ?_
  with_unfolding_all refine TE_seq ?_
  obtain ⟨x18, h19, hF⟩ := bind_s hF
  obtain ⟨x20, h21, hF⟩ := bind_s hF
  have hB22 : Bs [(id10, [u1, u3]), (d0_, [.int .i64 (c0_.From), .int .i64 (c0_.To), u5, u7]), (d1_, [.int .i64 (c1_)]), (d2_, [.int .i64 (c2_)])] s15 := Bs.cons (hO16.obj 1 rfl) (Bs.cons (hO16.get0 m0_ (List.not_mem_nil)) (Bs.cons (hO16.get0 m1_ (List.not_mem_nil)) (Bs.cons (hO16.get0 m2_ (List.not_mem_nil)) (Bs.nil _))))
  with_unfolding_all refine TE_drawY [(id10, [u1, u3]), (d0_, [.int .i64 (c0_.From), .int .i64 (c0_.To), u5, u7]), (d1_, [.int .i64 (c1_)]), (d2_, [.int .i64 (c2_)])] (by with_unfolding_all rfl) (by kernel_rfl) hB22 ?_
  have hM23 := MB_some hB22
  with_unfolding_all refine TX_load_p rfl (MC_some 0 rfl) rfl ?_
  with_unfolding_all refine TX_makeFunc rfl rfl ?_
  have hc30 : CallE Try.prog 70 [.agg [u1, u3], .fn (.func 75) [] [.ptr d0_ 0, .ptr d1_ 0, .ptr id10 0, .ptr d2_ 0]] s15 _ := match_outs_ok h19 ⟨u1, u3, rfl, h2, h4⟩ ⟨75, [], [.ptr d0_ 0, .ptr d1_ 0, .ptr id10 0, .ptr d2_ 0], rfl, en75, fun _ hX24 v25 x26 y28 h27 hy29 => match_Text_Window_1_1_ok hy29 h27 ⟨u5, u7, rfl, h6, h8⟩ (hX24.get (hO16.get0 m0_ (List.not_mem_nil))) rfl (hX24.get (hO16.get0 m1_ (List.not_mem_nil))) ⟨u1, u3, rfl, h2, h4⟩ (hX24.get (hO16.obj 1 rfl)) rfl (hX24.get (hO16.get0 m2_ (List.not_mem_nil)))⟩
  with_unfolding_all refine TY_call hM23 rfl en70 hc30 ?_
  intro v31 s35 hv32 hX33 hM34
  have hO36 := hO16.ext_call hX33
  obtain ⟨u37, u39, rfl, h38, h40⟩ := hv32
  with_unfolding_all refine TX_load_p rfl (MC_some 1 rfl) rfl ?_
  with_unfolding_all refine TX_load_p rfl (MC_some 2 rfl) rfl ?_
  with_unfolding_all refine TX_fieldAddr_p rfl rfl rfl ?_
  with_unfolding_all refine TX_load_p rfl (MC_some 0 rfl) rfl ?_
  have hc41 : CallE Try.prog 76 [.agg [.int .i64 (c0_.From), .int .i64 (c0_.To), u5, u7], .int .i64 (c1_), u1] s35 _ := match_Text_wide_ok h21 ⟨u5, u7, rfl, h6, h8⟩ rfl h2
  with_unfolding_all refine TY_call hM34 rfl en76 hc41 ?_
  intro v42 s46 hv43 hX44 hM45
  have hO47 := hO36.ext_call hX44
  obtain rfl := hv43
  with_unfolding_all refine TX_load_p rfl (MC_some 3 rfl) rfl ?_
  with_unfolding_all refine TX_cmp rfl rfl rfl ?_
  with_unfolding_all refine TY_store (v := .agg [u37, u39]) (vc := [u37, u39]) hO47 hM45 (MNe.cons (hO47.ne 1 0 rfl rfl (by decide)) (MNe.cons (hO47.ne0 m0_ (List.not_mem_nil) 0 rfl) (MNe.cons (hO47.ne0 m1_ (List.not_mem_nil) 0 rfl) (MNe.cons (hO47.ne0 m2_ (List.not_mem_nil) 0 rfl) (MNe.nil _))))) rfl rfl rfl rfl (by with_unfolding_all exact Nat.le_of_ble_eq_true rfl) (ones_cons (RS.one1 h38) (ones_cons (RS.one1 h40) ones_nil)) rfl ?_
  rintro s48 (hO49 : Own σ [] s48 [.obj id14 [u37, u39], .obj id10 [u1, u3]]) hM50
  with_unfolding_all refine TX_assign rfl ?_
  with_unfolding_all refine TX_nil ?_
  with_unfolding_all refine thenQ_normal ?_
  with_unfolding_all refine TE_ret ?_
  obtain rfl := some_s hF
  exact done_any (vs := [.agg [u37, u39], .bool ((decide (x20 ≤ c2_)))]) (.inr rfl) rfl (resR_cell rfl (hO49.obj 0 rfl) rfl (resR_tmp rfl resR_nil)) ⟨⟨_, _, rfl, ⟨u37, u39, rfl, h38, h40⟩, rfl⟩, hO49.ext⟩
theorem match_Text_Window_ok {x0_ : match_Text} {x1_ : (List match_Match)} {x2_ : Int} {x3_ : Int} {y : (List match_Match)} (hF : F.match_Text_Window x0_ x1_ x2_ x3_ = some y) {v0_ : AV} {v1_ : AV} {v2_ : AV} {v3_ : AV} {σ : Mem} (h0_ : e_match_Text.rel v0_ x0_) (h1_ : (RS e_match_Match) v1_ x1_) (h2_ : (eI .i64).rel v2_ x2_) (h3_ : (eI .i64).rel v3_ x3_)  :
    CallE Try.prog 44 [v0_, v1_, v2_, v3_] σ (fun v σ' => (RS e_match_Match) v y ∧ Ext σ σ') := by
  unfold F.match_Text_Window at hF
  obtain ⟨u1, u3, rfl, h2, h4⟩ := h0_
  obtain rfl := h2_
  obtain rfl := h3_
  refine CallE_of Try.func44 rfl Try.ntmps44 (by simp) ?_
  have hO0 := Own.start σ
  with_unfolding_all refine TE_seq ?_
  with_unfolding_all refine TE_seqY ?_
  have hM5 := MB_none σ
  with_unfolding_all refine TY_box hO0 hM5 rfl rfl ?_
  rintro id6 s7 (hO8 : Own σ [] s7 [.obj id6 [.int .i64 (x0_.From), .int .i64 (x0_.To), u1, u3]]) hM9
  with_unfolding_all refine TY_box hO8 hM9 rfl rfl ?_
  rintro id10 s11 (hO12 : Own σ [] s11 [.obj id10 [.int .i64 (x2_)], .obj id6 [.int .i64 (x0_.From), .int .i64 (x0_.To), u1, u3]]) hM13
  with_unfolding_all refine TY_box hO12 hM13 rfl rfl ?_
  rintro id14 s15 (hO16 : Own σ [] s15 [.obj id14 [.int .i64 (x3_)], .obj id10 [.int .i64 (x2_)], .obj id6 [.int .i64 (x0_.From), .int .i64 (x0_.To), u1, u3]]) hM17
  with_unfolding_all refine TX_assign rfl ?_
  with_unfolding_all refine TX_nil ?_
  with_unfolding_all refine thenQ_normal ?_
  with_unfolding_all refine TE_seq ?_
  obtain ⟨x18, h19, hF⟩ := bind_s hF
  with_unfolding_all refine TE_seqY ?_
  have hM20 := MB_none s15
  with_unfolding_all refine TX_move rfl ?_
  with_unfolding_all refine TX_makeFunc rfl rfl ?_
  have hc27 : CallE Try.prog 59 [v1_, .fn (.func 74) [] [.ptr id6 0, .ptr id14 0, .ptr id10 0]] s15 _ := match_keep_ok h19 h1_ ⟨74, [], [.ptr id6 0, .ptr id14 0, .ptr id10 0], rfl, en74, fun _ hX21 v22 x23 y25 h24 hy26 => match_Text_Window_1_ok hy26 h24 ⟨u1, u3, rfl, h2, h4⟩ (hX21.get (hO16.obj 2 rfl)) rfl (hX21.get (hO16.obj 0 rfl)) rfl (hX21.get (hO16.obj 1 rfl))⟩
  with_unfolding_all refine TY_call hM20 rfl en59 hc27 ?_
  intro v28 s32 hv29 hX30 hM31
  have hO33 := hO16.ext_call hX30
  with_unfolding_all refine TX_assign rfl ?_
  with_unfolding_all refine TX_nil ?_
  with_unfolding_all refine thenQ_normal ?_
  with_unfolding_all refine TE_ret ?_
  obtain rfl := some_s hF
  exact done_any (vs := [v28]) (.inr rfl) rfl (resR_tmp rfl resR_nil) ⟨hv29, hO33.ext⟩
theorem match_Text_Same_1_1_ok {x0_ : match_Span} {c0_ : match_Text} {c1_ : Int} {c2_ : match_Match} {y : Bool} (hF : F.match_Text_Same_1_1 x0_ c0_ c1_ c2_ = some y) {v0_ : AV} {σ : Mem} (h0_ : e_match_Span.rel v0_ x0_) {d0_ : Nat} {w0_ : AV} (k0_ : e_match_Text.rel w0_ c0_) (m0_ : σ[d0_]? = some (.cells w0_.cells)) {d1_ : Nat} {w1_ : AV} (k1_ : (eI .i64).rel w1_ c1_) (m1_ : σ[d1_]? = some (.cells w1_.cells)) {d2_ : Nat} {w2_ : AV} (k2_ : e_match_Match.rel w2_ c2_) (m2_ : σ[d2_]? = some (.cells w2_.cells)) :
    CallE Try.prog 79 [v0_, .ptr d0_ 0, .ptr d1_ 0, .ptr d2_ 0] σ (fun v σ' => eB.rel v y ∧ Ext σ σ') := by
  unfold F.match_Text_Same_1_1 at hF
  obtain rfl := h0_
  obtain ⟨u1, u3, rfl, h2, h4⟩ := k0_
  obtain rfl := k1_
  obtain ⟨u5, u7, rfl, h6, h8⟩ := k2_
  refine CallE_of Try.func79 rfl Try.ntmps79 (by simp) ?_
  have hO0 := Own.start σ
  with_unfolding_all refine TE_seq ?_
  with_unfolding_all refine TE_seqY ?_
  have hM9 := MB_none σ
  with_unfolding_all refine TY_box hO0 hM9 rfl rfl ?_
  rintro id10 s11 (hO12 : Own σ [] s11 [.obj id10 [.int .i64 (x0_.From), .int .i64 (x0_.To), .int .i64 (x0_.Part), .int .i64 (x0_.Weight)]]) hM13
  with_unfolding_all refine TX_assign rfl ?_
  with_unfolding_all refine TX_nil ?_
  with_unfolding_all refine thenQ_normal ?_
  with_unfolding_all refine TE_seq ?_
  obtain ⟨x14, h15, hF⟩ := bind_s hF
  obtain ⟨x16, h17, hF⟩ := bind_s hF
  obtain ⟨x18, h19, hF⟩ := bind_s hF
  have hB20 : Bs [(d0_, [.int .i64 (c0_.From), .int .i64 (c0_.To), u1, u3]), (d1_, [.int .i64 (c1_)]), (d2_, [u5, u7]), (id10, [.int .i64 (x0_.From), .int .i64 (x0_.To), .int .i64 (x0_.Part), .int .i64 (x0_.Weight)])] s11 := Bs.cons (hO12.get0 m0_ (List.not_mem_nil)) (Bs.cons (hO12.get0 m1_ (List.not_mem_nil)) (Bs.cons (hO12.get0 m2_ (List.not_mem_nil)) (Bs.cons (hO12.obj 0 rfl) (Bs.nil _))))
  with_unfolding_all refine TE_drawY [(d0_, [.int .i64 (c0_.From), .int .i64 (c0_.To), u1, u3]), (d1_, [.int .i64 (c1_)]), (d2_, [u5, u7]), (id10, [.int .i64 (x0_.From), .int .i64 (x0_.To), .int .i64 (x0_.Part), .int .i64 (x0_.Weight)])] (by with_unfolding_all rfl) (by kernel_rfl) hB20 ?_
  have hM21 := MB_some hB20
  with_unfolding_all refine TX_load_p rfl (MC_some 0 rfl) rfl ?_
  with_unfolding_all refine TX_load_p rfl (MC_some 1 rfl) rfl ?_
  with_unfolding_all refine TX_fieldAddr_p rfl rfl rfl ?_
  with_unfolding_all refine TX_load_p rfl (MC_some 2 rfl) rfl ?_
  have hc22 : CallE Try.prog 77 [u5] s11 _ := slices_Clone_match_Span_match_Span_ok h15 h6
  with_unfolding_all refine TY_callN hM21 rfl en77 hc22 (fun _ _ h => ⟨_, h.2⟩) ?_
  rintro v23 s27 ⟨hv24, hX25⟩ hM26
  have hO28 : Own σ [] s27 [.buf v23, .obj id10 [.int .i64 (x0_.From), .int .i64 (x0_.To), .int .i64 (x0_.Part), .int .i64 (x0_.Weight)]] := Own.call (A := []) hO12 hX25
  with_unfolding_all refine TX_load_p rfl (MC_some 3 rfl) rfl ?_
  have h29 : All2 e_match_Span.rel ([.agg [.int .i64 (x0_.From), .int .i64 (x0_.To), .int .i64 (x0_.Part), .int .i64 (x0_.Weight)]] : List AV) ([x0_] : (List match_Span)) := ⟨rfl, trivial⟩
  with_unfolding_all refine TY_buildSlice rfl rfl rfl rfl rfl h29 rfl (by decide) (by with_unfolding_all exact Nat.le_of_ble_eq_true rfl) ?_
  have h30 : RS e_match_Span (.sl [.agg [.int .i64 (x0_.From), .int .i64 (x0_.To), .int .i64 (x0_.Part), .int .i64 (x0_.Weight)]] .full) ([x0_] : (List match_Span)) := RS.of h29
  with_unfolding_all refine TY_append appT25_25 hO28 hM26 rfl rfl rfl rfl hv24 rfl h30 h17 ?_
  rintro u31 s33 (h32 : RS e_match_Span u31 x16) (hO34 : Own σ [] s33 [.buf u31, .obj id10 [.int .i64 (x0_.From), .int .i64 (x0_.To), .int .i64 (x0_.Part), .int .i64 (x0_.Weight)]]) hM35
  have hc36 : CallE Try.prog 76 [.agg [.int .i64 (c0_.From), .int .i64 (c0_.To), u1, u3], .int .i64 (c1_), u31] s33 _ := match_Text_wide_ok h19 ⟨u1, u3, rfl, h2, h4⟩ rfl h32
  with_unfolding_all refine TY_call hM35 rfl en76 hc36 ?_
  intro v37 s41 hv38 hX39 hM40
  have hO42 := hO34.ext_call hX39
  obtain rfl := hv38
  with_unfolding_all refine TX_cmp rfl rfl rfl ?_
  with_unfolding_all refine TX_assign rfl ?_
  with_unfolding_all refine TX_nil ?_
  with_unfolding_all refine thenQ_normal ?_
  with_unfolding_all refine TE_ret ?_
  obtain rfl := some_s hF
  exact done_any (vs := [.bool ((decide (x18 ≤ 1)))]) (.inr rfl) rfl (resR_tmp rfl resR_nil) ⟨rfl, hO42.ext⟩
theorem match_Text_Same_1_ok {x0_ : match_Match} {c0_ : match_Text} {c1_ : Int} {y : (match_Match × Bool)} (hF : F.match_Text_Same_1 x0_ c0_ c1_ = some y) {v0_ : AV} {σ : Mem} (h0_ : e_match_Match.rel v0_ x0_) {d0_ : Nat} {w0_ : AV} (k0_ : e_match_Text.rel w0_ c0_) (m0_ : σ[d0_]? = some (.cells w0_.cells)) {d1_ : Nat} {w1_ : AV} (k1_ : (eI .i64).rel w1_ c1_) (m1_ : σ[d1_]? = some (.cells w1_.cells)) :
    CallE Try.prog 78 [v0_, .ptr d0_ 0, .ptr d1_ 0] σ (fun v σ' => (R2 e_match_Match.rel eB.rel) v y ∧ Ext σ σ') := by
  unfold F.match_Text_Same_1 at hF
  obtain ⟨u1, u3, rfl, h2, h4⟩ := h0_
  obtain ⟨u5, u7, rfl, h6, h8⟩ := k0_
  obtain rfl := k1_
  refine CallE_of Try.func78 rfl Try.ntmps78 (by simp) ?_
  have hO0 := Own.start σ
  with_unfolding_all refine TE_seq ?_
  with_unfolding_all refine TE_seqY ?_
  have hM9 := MB_none σ
  with_unfolding_all refine TY_box hO0 hM9 rfl rfl ?_
  rintro id10 s11 (hO12 : Own σ [] s11 [.obj id10 [u1, u3]]) hM13
  with_unfolding_all refine TY_alloc hO12 hM13 rfl rfl ?_
  rintro id14 s15 (hO16 : Own σ [] s15 [.obj id14 [.nils, .nils], .obj id10 [u1, u3]]) hM17
  with_unfolding_all refine TX_assign rfl ?_
  with_unfolding_all refine TX_nil ?_
  with_unfolding_all refine thenQ_normal ?_
  with_unfolding_all refine TE_seq ?_
  obtain ⟨x18, h19, hF⟩ := bind_s hF
  obtain ⟨x20, h21, hF⟩ := bind_s hF
  have hB22 : Bs [(id10, [u1, u3]), (d0_, [.int .i64 (c0_.From), .int .i64 (c0_.To), u5, u7]), (d1_, [.int .i64 (c1_)])] s15 := Bs.cons (hO16.obj 1 rfl) (Bs.cons (hO16.get0 m0_ (List.not_mem_nil)) (Bs.cons (hO16.get0 m1_ (List.not_mem_nil)) (Bs.nil _)))
  with_unfolding_all refine TE_drawY [(id10, [u1, u3]), (d0_, [.int .i64 (c0_.From), .int .i64 (c0_.To), u5, u7]), (d1_, [.int .i64 (c1_)])] (by with_unfolding_all rfl) (by kernel_rfl) hB22 ?_
  have hM23 := MB_some hB22
  with_unfolding_all refine TX_load_p rfl (MC_some 0 rfl) rfl ?_
  with_unfolding_all refine TX_makeFunc rfl rfl ?_
  have hc30 : CallE Try.prog 70 [.agg [u1, u3], .fn (.func 79) [] [.ptr d0_ 0, .ptr d1_ 0, .ptr id10 0]] s15 _ := match_outs_ok h19 ⟨u1, u3, rfl, h2, h4⟩ ⟨79, [], [.ptr d0_ 0, .ptr d1_ 0, .ptr id10 0], rfl, en79, fun _ hX24 v25 x26 y28 h27 hy29 => match_Text_Same_1_1_ok hy29 h27 ⟨u5, u7, rfl, h6, h8⟩ (hX24.get (hO16.get0 m0_ (List.not_mem_nil))) rfl (hX24.get (hO16.get0 m1_ (List.not_mem_nil))) ⟨u1, u3, rfl, h2, h4⟩ (hX24.get (hO16.obj 1 rfl))⟩
  with_unfolding_all refine TY_call hM23 rfl en70 hc30 ?_
  intro v31 s35 hv32 hX33 hM34
  have hO36 := hO16.ext_call hX33
  obtain ⟨u37, u39, rfl, h38, h40⟩ := hv32
  with_unfolding_all refine TX_load_p rfl (MC_some 1 rfl) rfl ?_
  with_unfolding_all refine TX_load_p rfl (MC_some 2 rfl) rfl ?_
  with_unfolding_all refine TX_fieldAddr_p rfl rfl rfl ?_
  with_unfolding_all refine TX_load_p rfl (MC_some 0 rfl) rfl ?_
  have hc41 : CallE Try.prog 76 [.agg [.int .i64 (c0_.From), .int .i64 (c0_.To), u5, u7], .int .i64 (c1_), u1] s35 _ := match_Text_wide_ok h21 ⟨u5, u7, rfl, h6, h8⟩ rfl h2
  with_unfolding_all refine TY_call hM34 rfl en76 hc41 ?_
  intro v42 s46 hv43 hX44 hM45
  have hO47 := hO36.ext_call hX44
  obtain rfl := hv43
  with_unfolding_all refine TX_cmp rfl rfl rfl ?_
  with_unfolding_all refine TY_store (v := .agg [u37, u39]) (vc := [u37, u39]) hO47 hM45 (MNe.cons (hO47.ne 1 0 rfl rfl (by decide)) (MNe.cons (hO47.ne0 m0_ (List.not_mem_nil) 0 rfl) (MNe.cons (hO47.ne0 m1_ (List.not_mem_nil) 0 rfl) (MNe.nil _)))) rfl rfl rfl rfl (by with_unfolding_all exact Nat.le_of_ble_eq_true rfl) (ones_cons (RS.one1 h38) (ones_cons (RS.one1 h40) ones_nil)) rfl ?_
  rintro s48 (hO49 : Own σ [] s48 [.obj id14 [u37, u39], .obj id10 [u1, u3]]) hM50
  with_unfolding_all refine TX_assign rfl ?_
  with_unfolding_all refine TX_nil ?_
  with_unfolding_all refine thenQ_normal ?_
  with_unfolding_all refine TE_ret ?_
  obtain rfl := some_s hF
  exact done_any (vs := [.agg [u37, u39], .bool ((decide (x20 ≤ 1)))]) (.inr rfl) rfl (resR_cell rfl (hO49.obj 0 rfl) rfl (resR_tmp rfl resR_nil)) ⟨⟨_, _, rfl, ⟨u37, u39, rfl, h38, h40⟩, rfl⟩, hO49.ext⟩
theorem match_Text_Same_ok {x0_ : match_Text} {x1_ : (List match_Match)} {x2_ : Int} {y : (List match_Match)} (hF : F.match_Text_Same x0_ x1_ x2_ = some y) {v0_ : AV} {v1_ : AV} {v2_ : AV} {σ : Mem} (h0_ : e_match_Text.rel v0_ x0_) (h1_ : (RS e_match_Match) v1_ x1_) (h2_ : (eI .i64).rel v2_ x2_)  :
    CallE Try.prog 45 [v0_, v1_, v2_] σ (fun v σ' => (RS e_match_Match) v y ∧ Ext σ σ') := by
  unfold F.match_Text_Same at hF
  obtain ⟨u1, u3, rfl, h2, h4⟩ := h0_
  obtain rfl := h2_
  refine CallE_of Try.func45 rfl Try.ntmps45 (by simp) ?_
  have hO0 := Own.start σ
  with_unfolding_all refine TE_seq ?_
  with_unfolding_all refine TE_seqY ?_
  have hM5 := MB_none σ
  with_unfolding_all refine TY_box hO0 hM5 rfl rfl ?_
  rintro id6 s7 (hO8 : Own σ [] s7 [.obj id6 [.int .i64 (x0_.From), .int .i64 (x0_.To), u1, u3]]) hM9
  with_unfolding_all refine TY_box hO8 hM9 rfl rfl ?_
  rintro id10 s11 (hO12 : Own σ [] s11 [.obj id10 [.int .i64 (x2_)], .obj id6 [.int .i64 (x0_.From), .int .i64 (x0_.To), u1, u3]]) hM13
  with_unfolding_all refine TX_assign rfl ?_
  with_unfolding_all refine TX_nil ?_
  with_unfolding_all refine thenQ_normal ?_
  with_unfolding_all refine TE_seq ?_
  obtain ⟨x14, h15, hF⟩ := bind_s hF
  with_unfolding_all refine TE_seqY ?_
  have hM16 := MB_none s11
  with_unfolding_all refine TX_move rfl ?_
  with_unfolding_all refine TX_makeFunc rfl rfl ?_
  have hc23 : CallE Try.prog 59 [v1_, .fn (.func 78) [] [.ptr id6 0, .ptr id10 0]] s11 _ := match_keep_ok h15 h1_ ⟨78, [], [.ptr id6 0, .ptr id10 0], rfl, en78, fun _ hX17 v18 x19 y21 h20 hy22 => match_Text_Same_1_ok hy22 h20 ⟨u1, u3, rfl, h2, h4⟩ (hX17.get (hO12.obj 1 rfl)) rfl (hX17.get (hO12.obj 0 rfl))⟩
  with_unfolding_all refine TY_call hM16 rfl en59 hc23 ?_
  intro v24 s28 hv25 hX26 hM27
  have hO29 := hO12.ext_call hX26
  with_unfolding_all refine TX_assign rfl ?_
  with_unfolding_all refine TX_nil ?_
  with_unfolding_all refine thenQ_normal ?_
  with_unfolding_all refine TE_ret ?_
  obtain rfl := some_s hF
  exact done_any (vs := [v24]) (.inr rfl) rfl (resR_tmp rfl resR_nil) ⟨hv25, hO29.ext⟩
end Go.Proofs.Ytihbdelgoapeoaa.K
