/- Walks. Printed. -/
import Derived.Test.YtihbdelgoapeoaaGW12
namespace Go.Proofs.Ytihbdelgoapeoaa.K
open Go Go.RowKit F
set_option maxRecDepth 100000
set_option maxHeartbeats 4000000
set_option linter.unusedVariables false
set_option linter.unusedSimpArgs false
theorem match_Text_Apart_1_ok {x0_ : match_Match} {c0_ : match_Text} {c1_ : Int} {y : (match_Match × Bool)} (hF : F.match_Text_Apart_1 x0_ c0_ c1_ = some y) {v0_ : AV} {σ : Mem} (h0_ : e_match_Match.rel v0_ x0_) {d0_ : Nat} {w0_ : AV} (k0_ : e_match_Text.rel w0_ c0_) (m0_ : σ[d0_]? = some (.cells w0_.cells)) {d1_ : Nat} {w1_ : AV} (k1_ : (eI .i64).rel w1_ c1_) (m1_ : σ[d1_]? = some (.cells w1_.cells)) :
    CallE Try.prog 80 [v0_, .ptr d0_ 0, .ptr d1_ 0] σ (fun v σ' => (R2 e_match_Match.rel eB.rel) v y ∧ Ext σ σ') := by
  unfold F.match_Text_Apart_1 at hF
  obtain ⟨u1, u3, rfl, h2, h4⟩ := h0_
  obtain ⟨u5, u7, rfl, h6, h8⟩ := k0_
  obtain rfl := k1_
  refine CallE_of Try.func80 rfl Try.ntmps80 (by simp) ?_
  have hO0 := Own.start σ
  with_unfolding_all refine TE_seq ?_
  with_unfolding_all refine TE_seqY ?_
  have hM9 := MB_none σ
  with_unfolding_all refine TY_box hO0 hM9 rfl rfl ?_
  rintro id10 s11 (hO12 : Own σ [] s11 [.obj id10 [u1, u3]]) hM13
  with_unfolding_all refine TY_alloc hO12 hM13 rfl rfl ?_
  rintro id14 s15 (hO16 : Own σ [] s15 [.obj id14 [.nils, .nils], .obj id10 [u1, u3]]) hM17
  with_unfolding_all refine TX_assign rfl ?_
  with_unfolding_all refine TX_nil ?_
  with_unfolding_all refine thenQ_normal ?_
  with_unfolding_all refine TE_seq ?_
  with_unfolding_all refine TE_seq ?_
  with_unfolding_all refine TE_seqY ?_
  have hM18 := MB_none s15
  with_unfolding_all refine TX_fieldAddr_p rfl rfl rfl ?_
  with_unfolding_all refine TX_load_p rfl (MC_none (hO16.obj 1 rfl)) rfl ?_
  with_unfolding_all refine TY_len rfl rfl rfl rfl h2 rfl ?_
  with_unfolding_all refine TX_move rfl ?_
  with_unfolding_all refine TX_nil ?_
  with_unfolding_all refine thenQ_normal ?_
  with_unfolding_all refine TE_block ?_
  obtain ⟨a27, h28, hF⟩ := bind_s hF
  refine TE_iter (f := F.match_Text_Apart_1_s1 x0_ c0_ c1_) (s0 := 0) (a := a27) (fun (q19 : Int) z => ∃ (s21 : Mem), Own σ [] s21 [.obj id14 [.nils, .nils], .obj id10 [u1, u3]] ∧ Le z ⟨fr 55 [(1, .ptr d0_ 0), (2, .ptr d1_ 0), (3, .ptr id10 0), (4, .ptr id14 0), (11, u1), (12, .int .i64 ((x0_.In.length : Int))), (13, .int .i64 (q19))], [], s21⟩) (fun (a : (Unit ⊕ (match_Match × Bool))) e z => (∃ p23 : Unit, a = (.inl p23) ∧ e = .exit 0 ∧ ∃ (s24 : Mem), Own σ [] s24 [.obj id14 [.nils, .nils], .obj id10 [u1, u3]] ∧ Le z ⟨fr 55 [(3, .ptr id10 0), (4, .ptr id14 0)], [], s24⟩) ∨ (∃ p26 : (match_Match × Bool), a = (.inr (p26)) ∧ e = .ret ∧ doneQ Try.prog Try.f80 (fun v σ' => (R2 e_match_Match.rel eB.rel) v p26 ∧ Ext σ σ') .ret z)) h28 ?_ ?_ ?_
  · skip
    have hO29 : Own σ [] s15 [.obj id10 [u1, u3], .obj id14 [.nils, .nils]] := hO16.front 1 rfl rfl
    have hO30 : Own σ [] s15 [.obj id14 [.nils, .nils], .obj id10 [u1, u3]] := hO29.front 1 rfl rfl
    exact ⟨s15, (hO30.sub 2 rfl), (Le_fr ⟨rfl, ⟨rfl, ⟨rfl, ⟨rfl, ⟨rfl, ⟨rfl, ⟨rfl, trivial⟩⟩⟩⟩⟩⟩⟩)⟩
  · skip
    clear hF
    rintro q19 zq19 r20 ⟨s21, hO22, hz31⟩ hF
    unfold F.match_Text_Apart_1_s1 at hF
    refine TE_pre hz31 ?_
    with_unfolding_all refine TE_seq ?_
    with_unfolding_all refine TE_seqY ?_
    have hM32 := MB_none s21
    with_unfolding_all refine TX_cmp rfl rfl rfl ?_
    with_unfolding_all refine TX_nil ?_
    with_unfolding_all refine thenQ_normal ?_
    with_unfolding_all refine TE_seq ?_
    with_unfolding_all refine TE_cond rfl (fun hc33 => ?_) (fun hc33 => ?_)
    · skip
      replace hF := ite_t hc33 hF
      with_unfolding_all refine TE_skip ?_
      with_unfolding_all refine thenQ_normal ?_
      with_unfolding_all refine TE_seq ?_
      with_unfolding_all refine TE_block ?_
      with_unfolding_all refine TE_seq ?_
      obtain ⟨x34, h35, hF⟩ := bind_s hF
      with_unfolding_all refine TE_seqY ?_
      have hM36 := MB_none s21
      with_unfolding_all refine TX_move rfl ?_
      with_unfolding_all refine TY_idx (E := e_match_Span) rfl rfl rfl h2 rfl h35 ?_
      intro u37 h38
      obtain rfl := h38
      with_unfolding_all refine TX_load_c rfl rfl ?_
      with_unfolding_all refine TY_alloc hO22 hM36 rfl rfl ?_
      rintro id39 s40 (hO41 : Own σ [] s40 [.obj id39 [.int .i64 (0), .int .i64 (0), .int .i64 (0), .int .i64 (0)], .obj id14 [.nils, .nils], .obj id10 [u1, u3]]) hM42
      with_unfolding_all refine TX_assign rfl ?_
      with_unfolding_all refine TY_store (v := .agg [.int .i64 (x34.From), .int .i64 (x34.To), .int .i64 (x34.Part), .int .i64 (x34.Weight)]) (vc := [.int .i64 (x34.From), .int .i64 (x34.To), .int .i64 (x34.Part), .int .i64 (x34.Weight)]) hO41 hM42 (MNe.none _) rfl rfl rfl rfl (by with_unfolding_all exact Nat.le_of_ble_eq_true rfl) (ones_cons rfl (ones_cons rfl (ones_cons rfl (ones_cons rfl ones_nil)))) rfl ?_
      rintro s43 (hO44 : Own σ [] s43 [.obj id39 [.int .i64 (x34.From), .int .i64 (x34.To), .int .i64 (x34.Part), .int .i64 (x34.Weight)], .obj id14 [.nils, .nils], .obj id10 [u1, u3]]) hM45
      with_unfolding_all refine TX_nil ?_
      with_unfolding_all refine thenQ_normal ?_
      with_unfolding_all refine TE_seq ?_
      obtain ⟨x46, h47, hF⟩ := bind_s hF
      with_unfolding_all refine TE_seqY ?_
      have hM48 := MB_none s43
      with_unfolding_all refine TX_fieldAddr_p rfl rfl rfl ?_
      with_unfolding_all refine TX_load_p rfl (MC_none (hO44.obj 2 rfl)) rfl ?_
      with_unfolding_all refine TX_move rfl ?_
      with_unfolding_all refine TY_lsl rfl rfl rfl h2 rfl rfl h47 ?_
      intro u49 h50
      with_unfolding_all refine TY_len rfl rfl rfl rfl h50 rfl ?_
      with_unfolding_all refine TX_move rfl ?_
      with_unfolding_all refine TX_nil ?_
      with_unfolding_all refine thenQ_normal ?_
      with_unfolding_all refine TE_block ?_
      obtain ⟨a59, h60, hF⟩ := bind_s hF
      refine TE_iter (f := F.match_Text_Apart_1_s2 x0_ c0_ c1_ x34 x46) (s0 := 0) (a := a59) (fun (q51 : Int) z => ∃ (s53 : Mem), Own σ [] s53 [.obj id39 [.int .i64 (x34.From), .int .i64 (x34.To), .int .i64 (x34.Part), .int .i64 (x34.Weight)], .obj id14 [.nils, .nils], .obj id10 [u1, u3]] ∧ Le z ⟨fr 55 [(1, .ptr d0_ 0), (2, .ptr d1_ 0), (3, .ptr id10 0), (4, .ptr id14 0), (7, .ptr id39 0), (11, u1), (12, .int .i64 ((x0_.In.length : Int))), (13, .int .i64 (q19)), (21, u49), (22, .int .i64 ((x46.length : Int))), (23, .int .i64 (q51))], [], s53⟩) (fun (a : (Unit ⊕ (match_Match × Bool))) e z => (∃ p55 : Unit, a = (.inl p55) ∧ e = .exit 2 ∧ ∃ (s56 : Mem), Own σ [] s56 [.obj id39 [.int .i64 (x34.From), .int .i64 (x34.To), .int .i64 (x34.Part), .int .i64 (x34.Weight)], .obj id14 [.nils, .nils], .obj id10 [u1, u3]] ∧ Le z ⟨fr 55 [(1, .ptr d0_ 0), (2, .ptr d1_ 0), (3, .ptr id10 0), (4, .ptr id14 0), (11, u1), (12, .int .i64 ((x0_.In.length : Int))), (13, .int .i64 (q19))], [], s56⟩) ∨ (∃ p58 : (match_Match × Bool), a = (.inr (p58)) ∧ e = .ret ∧ doneQ Try.prog Try.f80 (fun v σ' => (R2 e_match_Match.rel eB.rel) v p58 ∧ Ext σ σ') .ret z)) h60 ?_ ?_ ?_
      · skip
        have hO61 : Own σ [] s43 [.obj id10 [u1, u3], .obj id39 [.int .i64 (x34.From), .int .i64 (x34.To), .int .i64 (x34.Part), .int .i64 (x34.Weight)], .obj id14 [.nils, .nils]] := hO44.front 2 rfl rfl
        have hO62 : Own σ [] s43 [.obj id14 [.nils, .nils], .obj id10 [u1, u3], .obj id39 [.int .i64 (x34.From), .int .i64 (x34.To), .int .i64 (x34.Part), .int .i64 (x34.Weight)]] := hO61.front 2 rfl rfl
        have hO63 : Own σ [] s43 [.obj id39 [.int .i64 (x34.From), .int .i64 (x34.To), .int .i64 (x34.Part), .int .i64 (x34.Weight)], .obj id14 [.nils, .nils], .obj id10 [u1, u3]] := hO62.front 2 rfl rfl
        exact ⟨s43, (hO63.sub 3 rfl), (Le_fr ⟨rfl, ⟨rfl, ⟨rfl, ⟨rfl, ⟨rfl, ⟨rfl, ⟨rfl, ⟨rfl, ⟨rfl, ⟨rfl, ⟨rfl, trivial⟩⟩⟩⟩⟩⟩⟩⟩⟩⟩⟩)⟩
      · skip
        clear hF
        rintro q51 zq51 r52 ⟨s53, hO54, hz64⟩ hF
        unfold F.match_Text_Apart_1_s2 at hF
        refine TE_pre hz64 ?_
        with_unfolding_all refine TE_seq ?_
        with_unfolding_all refine TE_seqY ?_
        have hM65 := MB_none s53
        with_unfolding_all refine TX_cmp rfl rfl rfl ?_
        with_unfolding_all refine TX_nil ?_
        with_unfolding_all refine thenQ_normal ?_
        with_unfolding_all refine TE_seq ?_
        with_unfolding_all refine TE_cond rfl (fun hc66 => ?_) (fun hc66 => ?_)
        · skip
          replace hF := ite_t hc66 hF
          with_unfolding_all refine TE_skip ?_
          with_unfolding_all refine thenQ_normal ?_
          with_unfolding_all refine TE_seq ?_
          with_unfolding_all refine TE_block ?_
          with_unfolding_all refine TE_seq ?_
          obtain ⟨x67, h68, hF⟩ := bind_s hF
          with_unfolding_all refine TE_seqY ?_
          have hM69 := MB_none s53
          with_unfolding_all refine TY_idx (E := e_match_Span) rfl rfl rfl h50 rfl h68 ?_
          intro u70 h71
          obtain rfl := h71
          with_unfolding_all refine TX_load_c rfl rfl ?_
          with_unfolding_all refine TY_alloc hO54 hM69 rfl rfl ?_
          rintro id72 s73 (hO74 : Own σ [] s73 [.obj id72 [.int .i64 (0), .int .i64 (0), .int .i64 (0), .int .i64 (0)], .obj id39 [.int .i64 (x34.From), .int .i64 (x34.To), .int .i64 (x34.Part), .int .i64 (x34.Weight)], .obj id14 [.nils, .nils], .obj id10 [u1, u3]]) hM75
          with_unfolding_all refine TY_store (v := .agg [.int .i64 (x67.From), .int .i64 (x67.To), .int .i64 (x67.Part), .int .i64 (x67.Weight)]) (vc := [.int .i64 (x67.From), .int .i64 (x67.To), .int .i64 (x67.Part), .int .i64 (x67.Weight)]) hO74 hM75 (MNe.none _) rfl rfl rfl rfl (by with_unfolding_all exact Nat.le_of_ble_eq_true rfl) (ones_cons rfl (ones_cons rfl (ones_cons rfl (ones_cons rfl ones_nil)))) rfl ?_
          rintro s76 (hO77 : Own σ [] s76 [.obj id72 [.int .i64 (x67.From), .int .i64 (x67.To), .int .i64 (x67.Part), .int .i64 (x67.Weight)], .obj id39 [.int .i64 (x34.From), .int .i64 (x34.To), .int .i64 (x34.Part), .int .i64 (x34.Weight)], .obj id14 [.nils, .nils], .obj id10 [u1, u3]]) hM78
          with_unfolding_all refine TX_nil ?_
          with_unfolding_all refine thenQ_normal ?_
          with_unfolding_all refine TE_seq ?_
          obtain ⟨x79, h80, hF⟩ := bind_s hF
          obtain ⟨x81, h82, hF⟩ := bind_s hF
          obtain ⟨r87, h88, hF⟩ := bind_s hF
          refine TE_cutQ (fun z => ∃ (s90 : Mem), Own σ [] s90 [.obj id72 [.int .i64 (x67.From), .int .i64 (x67.To), .int .i64 (x67.Part), .int .i64 (x67.Weight)], .obj id39 [.int .i64 (x34.From), .int .i64 (x34.To), .int .i64 (x34.Part), .int .i64 (x34.Weight)], .obj id14 [.nils, .nils], .obj id10 [u1, u3]] ∧ Le z ⟨fr 55 [(1, .ptr d0_ 0), (2, .ptr d1_ 0), (3, .ptr id10 0), (4, .ptr id14 0), (7, .ptr id39 0), (11, u1), (12, .int .i64 ((x0_.In.length : Int))), (13, .int .i64 (q19)), (21, u49), (22, .int .i64 ((x46.length : Int))), (23, .int .i64 (q51)), (50, .bool (r87))], [], s90⟩) ?_ ?_
          · skip
            have hB93 : Bs [(d0_, [.int .i64 (c0_.From), .int .i64 (c0_.To), u5, u7]), (d1_, [.int .i64 (c1_)]), (id39, [.int .i64 (x34.From), .int .i64 (x34.To), .int .i64 (x34.Part), .int .i64 (x34.Weight)]), (id72, [.int .i64 (x67.From), .int .i64 (x67.To), .int .i64 (x67.Part), .int .i64 (x67.Weight)])] s76 := Bs.cons (hO77.get0 m0_ (List.not_mem_nil)) (Bs.cons (hO77.get0 m1_ (List.not_mem_nil)) (Bs.cons (hO77.obj 1 rfl) (Bs.cons (hO77.obj 0 rfl) (Bs.nil _))))
            with_unfolding_all refine TE_drawY [(d0_, [.int .i64 (c0_.From), .int .i64 (c0_.To), u5, u7]), (d1_, [.int .i64 (c1_)]), (id39, [.int .i64 (x34.From), .int .i64 (x34.To), .int .i64 (x34.Part), .int .i64 (x34.Weight)]), (id72, [.int .i64 (x67.From), .int .i64 (x67.To), .int .i64 (x67.Part), .int .i64 (x67.Weight)])] (by with_unfolding_all rfl) (by kernel_rfl) hB93 ?_
            have hM94 := MB_some hB93
            with_unfolding_all refine TX_load_p rfl (MC_some 0 rfl) rfl ?_
            with_unfolding_all refine TX_load_p rfl (MC_some 1 rfl) rfl ?_
            with_unfolding_all refine TX_fieldAddr_p rfl rfl rfl ?_
            with_unfolding_all refine TX_load_p rfl (MC_some 2 rfl) rfl ?_
            have hc95 : CallE Try.prog 43 [.agg [.int .i64 (c0_.From), .int .i64 (c0_.To), u5, u7], .int .i64 (c1_), .int .i64 (x34.From)] s76 _ := match_Text_Rank_ok h80 ⟨u5, u7, rfl, h6, h8⟩ rfl rfl
            with_unfolding_all refine TY_call hM94 rfl en43 hc95 ?_
            intro v96 s100 hv97 hX98 hM99
            have hO101 := hO77.ext_call hX98
            obtain rfl := hv97
            with_unfolding_all refine TX_load_p rfl (MC_some 0 rfl) rfl ?_
            with_unfolding_all refine TX_load_p rfl (MC_some 1 rfl) rfl ?_
            with_unfolding_all refine TX_fieldAddr_p rfl rfl rfl ?_
            with_unfolding_all refine TX_load_p rfl (MC_some 3 rfl) rfl ?_
            have hc102 : CallE Try.prog 43 [.agg [.int .i64 (c0_.From), .int .i64 (c0_.To), u5, u7], .int .i64 (c1_), .int .i64 (x67.To)] s100 _ := match_Text_Rank_ok h82 ⟨u5, u7, rfl, h6, h8⟩ rfl rfl
            with_unfolding_all refine TY_call hM99 rfl en43 hc102 ?_
            intro v103 s107 hv104 hX105 hM106
            have hO108 := hO101.ext_call hX105
            obtain rfl := hv104
            with_unfolding_all refine TX_cmp rfl rfl rfl ?_
            with_unfolding_all refine TX_move rfl ?_
            with_unfolding_all refine TX_guard_t rfl rfl (fun hc109 => ?_) (fun hc109 => ?_)
            · skip
              replace h88 := ite_t hc109 h88
              obtain ⟨x83, h84, h88⟩ := bind_s h88
              obtain ⟨x85, h86, h88⟩ := bind_s h88
              with_unfolding_all refine TX_load_p rfl (MC_some 0 rfl) rfl ?_
              with_unfolding_all refine TX_guard_yes rfl rfl hc109 ?_
              with_unfolding_all refine TX_load_p rfl (MC_some 1 rfl) rfl ?_
              with_unfolding_all refine TX_guard_yes rfl rfl hc109 ?_
              with_unfolding_all refine TX_fieldAddr_p rfl rfl rfl ?_
              with_unfolding_all refine TX_guard_yes rfl rfl hc109 ?_
              with_unfolding_all refine TX_load_p rfl (MC_some 3 rfl) rfl ?_
              with_unfolding_all refine TX_guard_yes rfl rfl hc109 ?_
              have hc110 : CallE Try.prog 43 [.agg [.int .i64 (c0_.From), .int .i64 (c0_.To), u5, u7], .int .i64 (c1_), .int .i64 (x67.From)] s107 _ := match_Text_Rank_ok h84 ⟨u5, u7, rfl, h6, h8⟩ rfl rfl
              with_unfolding_all refine TY_call hM106 rfl en43 hc110 ?_
              intro v111 s115 hv112 hX113 hM114
              have hO116 := hO108.ext_call hX113
              obtain rfl := hv112
              with_unfolding_all refine TX_guard_yes rfl rfl hc109 ?_
              with_unfolding_all refine TX_load_p rfl (MC_some 0 rfl) rfl ?_
              with_unfolding_all refine TX_guard_yes rfl rfl hc109 ?_
              with_unfolding_all refine TX_load_p rfl (MC_some 1 rfl) rfl ?_
              with_unfolding_all refine TX_guard_yes rfl rfl hc109 ?_
              with_unfolding_all refine TX_fieldAddr_p rfl rfl rfl ?_
              with_unfolding_all refine TX_guard_yes rfl rfl hc109 ?_
              with_unfolding_all refine TX_load_p rfl (MC_some 2 rfl) rfl ?_
              with_unfolding_all refine TX_guard_yes rfl rfl hc109 ?_
              have hc117 : CallE Try.prog 43 [.agg [.int .i64 (c0_.From), .int .i64 (c0_.To), u5, u7], .int .i64 (c1_), .int .i64 (x34.To)] s115 _ := match_Text_Rank_ok h86 ⟨u5, u7, rfl, h6, h8⟩ rfl rfl
              with_unfolding_all refine TY_call hM114 rfl en43 hc117 ?_
              intro v118 s122 hv119 hX120 hM121
              have hO123 := hO116.ext_call hX120
              obtain rfl := hv119
              with_unfolding_all refine TX_guard_yes rfl rfl hc109 ?_
              with_unfolding_all refine TX_cmp rfl rfl rfl ?_
              with_unfolding_all refine TX_pick_t rfl hc109 rfl ?_
              obtain rfl := some_s h88
              with_unfolding_all refine TX_nil ?_
              have hO124 : Own σ [] s122 [.obj id10 [u1, u3], .obj id72 [.int .i64 (x67.From), .int .i64 (x67.To), .int .i64 (x67.Part), .int .i64 (x67.Weight)], .obj id39 [.int .i64 (x34.From), .int .i64 (x34.To), .int .i64 (x34.Part), .int .i64 (x34.Weight)], .obj id14 [.nils, .nils]] := hO123.front 3 rfl rfl
              have hO125 : Own σ [] s122 [.obj id14 [.nils, .nils], .obj id10 [u1, u3], .obj id72 [.int .i64 (x67.From), .int .i64 (x67.To), .int .i64 (x67.Part), .int .i64 (x67.Weight)], .obj id39 [.int .i64 (x34.From), .int .i64 (x34.To), .int .i64 (x34.Part), .int .i64 (x34.Weight)]] := hO124.front 3 rfl rfl
              have hO126 : Own σ [] s122 [.obj id39 [.int .i64 (x34.From), .int .i64 (x34.To), .int .i64 (x34.Part), .int .i64 (x34.Weight)], .obj id14 [.nils, .nils], .obj id10 [u1, u3], .obj id72 [.int .i64 (x67.From), .int .i64 (x67.To), .int .i64 (x67.Part), .int .i64 (x67.Weight)]] := hO125.front 3 rfl rfl
              have hO127 : Own σ [] s122 [.obj id72 [.int .i64 (x67.From), .int .i64 (x67.To), .int .i64 (x67.Part), .int .i64 (x67.Weight)], .obj id39 [.int .i64 (x34.From), .int .i64 (x34.To), .int .i64 (x34.Part), .int .i64 (x34.Weight)], .obj id14 [.nils, .nils], .obj id10 [u1, u3]] := hO126.front 3 rfl rfl
              exact joinQ_normal ⟨s122, (hO127.sub 4 rfl), (Le_fr ⟨rfl, ⟨rfl, ⟨rfl, ⟨rfl, ⟨rfl, ⟨rfl, ⟨rfl, ⟨rfl, ⟨rfl, ⟨rfl, ⟨rfl, ⟨rfl, trivial⟩⟩⟩⟩⟩⟩⟩⟩⟩⟩⟩⟩)⟩
            · skip
              replace h88 := ite_f hc109 h88
              obtain rfl := some_s h88
              with_unfolding_all refine TX_guard_no_t rfl rfl hc109 ?_
              with_unfolding_all refine TX_guard_no_t rfl rfl hc109 ?_
              with_unfolding_all refine TX_guard_no_t rfl rfl hc109 ?_
              with_unfolding_all refine TX_guard_no_t rfl rfl hc109 ?_
              with_unfolding_all refine TX_guard_no_t rfl rfl hc109 ?_
              with_unfolding_all refine TX_guard_no_t rfl rfl hc109 ?_
              with_unfolding_all refine TX_guard_no_t rfl rfl hc109 ?_
              with_unfolding_all refine TX_guard_no_t rfl rfl hc109 ?_
              with_unfolding_all refine TX_guard_no_t rfl rfl hc109 ?_
              with_unfolding_all refine TX_guard_no_t rfl rfl hc109 ?_
              with_unfolding_all refine TX_pick_f rfl hc109 rfl ?_
              with_unfolding_all refine TX_nil ?_
              have hO128 : Own σ [] s107 [.obj id10 [u1, u3], .obj id72 [.int .i64 (x67.From), .int .i64 (x67.To), .int .i64 (x67.Part), .int .i64 (x67.Weight)], .obj id39 [.int .i64 (x34.From), .int .i64 (x34.To), .int .i64 (x34.Part), .int .i64 (x34.Weight)], .obj id14 [.nils, .nils]] := hO108.front 3 rfl rfl
              have hO129 : Own σ [] s107 [.obj id14 [.nils, .nils], .obj id10 [u1, u3], .obj id72 [.int .i64 (x67.From), .int .i64 (x67.To), .int .i64 (x67.Part), .int .i64 (x67.Weight)], .obj id39 [.int .i64 (x34.From), .int .i64 (x34.To), .int .i64 (x34.Part), .int .i64 (x34.Weight)]] := hO128.front 3 rfl rfl
              have hO130 : Own σ [] s107 [.obj id39 [.int .i64 (x34.From), .int .i64 (x34.To), .int .i64 (x34.Part), .int .i64 (x34.Weight)], .obj id14 [.nils, .nils], .obj id10 [u1, u3], .obj id72 [.int .i64 (x67.From), .int .i64 (x67.To), .int .i64 (x67.Part), .int .i64 (x67.Weight)]] := hO129.front 3 rfl rfl
              have hO131 : Own σ [] s107 [.obj id72 [.int .i64 (x67.From), .int .i64 (x67.To), .int .i64 (x67.Part), .int .i64 (x67.Weight)], .obj id39 [.int .i64 (x34.From), .int .i64 (x34.To), .int .i64 (x34.Part), .int .i64 (x34.Weight)], .obj id14 [.nils, .nils], .obj id10 [u1, u3]] := hO130.front 3 rfl rfl
              exact joinQ_normal ⟨s107, (hO131.sub 4 rfl), (Le_fr ⟨rfl, ⟨rfl, ⟨rfl, ⟨rfl, ⟨rfl, ⟨rfl, ⟨rfl, ⟨rfl, ⟨rfl, ⟨rfl, ⟨rfl, ⟨rfl, trivial⟩⟩⟩⟩⟩⟩⟩⟩⟩⟩⟩⟩)⟩
          · skip
            rintro zj89 ⟨s90, hO91, hz92⟩
            with_unfolding_all refine thenQ_normal ?_
            refine TE_pre hz92 ?_
            with_unfolding_all refine TE_cond rfl (fun hc132 => ?_) (fun hc132 => ?_)
            · skip
              replace hF := ite_t hc132 hF
              with_unfolding_all refine TE_seq ?_
              with_unfolding_all refine TE_seqY ?_
              have hM133 := MB_none s90
              with_unfolding_all refine TX_load_p rfl (MC_none (hO91.obj 3 rfl)) rfl ?_
              have hO134 : Own σ [] s90 [.obj id14 [.nils, .nils], .obj id72 [.int .i64 (x67.From), .int .i64 (x67.To), .int .i64 (x67.Part), .int .i64 (x67.Weight)], .obj id39 [.int .i64 (x34.From), .int .i64 (x34.To), .int .i64 (x34.Part), .int .i64 (x34.Weight)], .obj id10 [u1, u3]] := hO91.front 2 rfl rfl
              with_unfolding_all refine TY_store (v := .agg [u1, u3]) (vc := [u1, u3]) hO134 hM133 (MNe.none _) rfl rfl rfl rfl (by with_unfolding_all exact Nat.le_of_ble_eq_true rfl) (ones_cons (RS.one1 h2) (ones_cons (RS.one1 h4) ones_nil)) rfl ?_
              rintro s135 (hO136 : Own σ [] s135 [.obj id14 [u1, u3], .obj id72 [.int .i64 (x67.From), .int .i64 (x67.To), .int .i64 (x67.Part), .int .i64 (x67.Weight)], .obj id39 [.int .i64 (x34.From), .int .i64 (x34.To), .int .i64 (x34.Part), .int .i64 (x34.Weight)], .obj id10 [u1, u3]]) hM137
              with_unfolding_all refine TX_assign rfl ?_
              with_unfolding_all refine TX_nil ?_
              with_unfolding_all refine thenQ_normal ?_
              with_unfolding_all refine TE_ret ?_
              with_unfolding_all refine blockQ_ret ?_
              with_unfolding_all refine thenQ_ret ?_
              obtain rfl := some_s hF
              exact iterQ_ret (.inr <| ⟨_, rfl, rfl, (done_any (vs := [.agg [u1, u3], .bool (false)]) (.inr rfl) rfl (resR_cell rfl (hO136.obj 0 rfl) rfl (resR_tmp rfl resR_nil)) ⟨⟨_, _, rfl, ⟨u1, u3, rfl, h2, h4⟩, rfl⟩, hO136.ext⟩)⟩)
            · skip
              replace hF := ite_f hc132 hF
              with_unfolding_all refine TE_skip ?_
              with_unfolding_all refine blockQ_normal ?_
              with_unfolding_all refine thenQ_normal ?_
              with_unfolding_all refine TE_seqY ?_
              have hM138 := MB_none s90
              with_unfolding_all refine TX_ari rfl rfl rfl ?_
              with_unfolding_all refine TX_move rfl ?_
              with_unfolding_all refine TX_nil ?_
              obtain rfl := some_s hF
              have hO139 : Own σ [] s90 [.obj id10 [u1, u3], .obj id72 [.int .i64 (x67.From), .int .i64 (x67.To), .int .i64 (x67.Part), .int .i64 (x67.Weight)], .obj id39 [.int .i64 (x34.From), .int .i64 (x34.To), .int .i64 (x34.Part), .int .i64 (x34.Weight)], .obj id14 [.nils, .nils]] := hO91.front 3 rfl rfl
              have hO140 : Own σ [] s90 [.obj id14 [.nils, .nils], .obj id10 [u1, u3], .obj id72 [.int .i64 (x67.From), .int .i64 (x67.To), .int .i64 (x67.Part), .int .i64 (x67.Weight)], .obj id39 [.int .i64 (x34.From), .int .i64 (x34.To), .int .i64 (x34.Part), .int .i64 (x34.Weight)]] := hO139.front 3 rfl rfl
              have hO141 : Own σ [] s90 [.obj id39 [.int .i64 (x34.From), .int .i64 (x34.To), .int .i64 (x34.Part), .int .i64 (x34.Weight)], .obj id14 [.nils, .nils], .obj id10 [u1, u3], .obj id72 [.int .i64 (x67.From), .int .i64 (x67.To), .int .i64 (x67.Part), .int .i64 (x67.Weight)]] := hO140.front 3 rfl rfl
              exact iterQ_again ⟨s90, (hO141.sub 3 rfl), (Le_fr ⟨rfl, ⟨rfl, ⟨rfl, ⟨rfl, ⟨rfl, ⟨rfl, ⟨rfl, ⟨rfl, ⟨rfl, ⟨rfl, ⟨rfl, trivial⟩⟩⟩⟩⟩⟩⟩⟩⟩⟩⟩)⟩
        · skip
          replace hF := ite_f hc66 hF
          with_unfolding_all refine TE_exit ?_
          with_unfolding_all refine thenQ_exit ?_
          obtain rfl := some_s hF
          have hO142 : Own σ [] s53 [.obj id10 [u1, u3], .obj id39 [.int .i64 (x34.From), .int .i64 (x34.To), .int .i64 (x34.Part), .int .i64 (x34.Weight)], .obj id14 [.nils, .nils]] := hO54.front 2 rfl rfl
          have hO143 : Own σ [] s53 [.obj id14 [.nils, .nils], .obj id10 [u1, u3], .obj id39 [.int .i64 (x34.From), .int .i64 (x34.To), .int .i64 (x34.Part), .int .i64 (x34.Weight)]] := hO142.front 2 rfl rfl
          have hO144 : Own σ [] s53 [.obj id39 [.int .i64 (x34.From), .int .i64 (x34.To), .int .i64 (x34.Part), .int .i64 (x34.Weight)], .obj id14 [.nils, .nils], .obj id10 [u1, u3]] := hO143.front 2 rfl rfl
          exact iterQ_exit (.inl <| ⟨_, rfl, rfl, s53, (hO144.sub 3 rfl), (Le_fr ⟨rfl, ⟨rfl, ⟨rfl, ⟨rfl, ⟨rfl, ⟨rfl, ⟨rfl, trivial⟩⟩⟩⟩⟩⟩⟩)⟩)
      · skip
        rintro eq51 zq51 (⟨p55, rfl, rfl, s56, hO57, hz145⟩ | ⟨p58, rfl, rfl, hdp58⟩)
        · skip
          try dsimp only at hF
          with_unfolding_all refine blockQ_out ?_
          with_unfolding_all refine blockQ_normal ?_
          with_unfolding_all refine thenQ_normal ?_
          refine TE_pre hz145 ?_
          with_unfolding_all refine TE_seqY ?_
          have hM146 := MB_none s56
          with_unfolding_all refine TX_ari rfl rfl rfl ?_
          with_unfolding_all refine TX_move rfl ?_
          with_unfolding_all refine TX_nil ?_
          obtain rfl := some_s hF
          have hO147 : Own σ [] s56 [.obj id10 [u1, u3], .obj id39 [.int .i64 (x34.From), .int .i64 (x34.To), .int .i64 (x34.Part), .int .i64 (x34.Weight)], .obj id14 [.nils, .nils]] := hO57.front 2 rfl rfl
          have hO148 : Own σ [] s56 [.obj id14 [.nils, .nils], .obj id10 [u1, u3], .obj id39 [.int .i64 (x34.From), .int .i64 (x34.To), .int .i64 (x34.Part), .int .i64 (x34.Weight)]] := hO147.front 2 rfl rfl
          exact iterQ_again ⟨s56, (hO148.sub 2 rfl), (Le_fr ⟨rfl, ⟨rfl, ⟨rfl, ⟨rfl, ⟨rfl, ⟨rfl, ⟨rfl, trivial⟩⟩⟩⟩⟩⟩⟩)⟩
        · skip
          try dsimp only at hF
          with_unfolding_all refine blockQ_ret ?_
          with_unfolding_all refine blockQ_ret ?_
          with_unfolding_all refine thenQ_ret ?_
          obtain rfl := some_s hF
          exact iterQ_ret (.inr <| ⟨_, rfl, rfl, hdp58⟩)
    · skip
      replace hF := ite_f hc33 hF
      with_unfolding_all refine TE_exit ?_
      with_unfolding_all refine thenQ_exit ?_
      obtain rfl := some_s hF
      have hO149 : Own σ [] s21 [.obj id10 [u1, u3], .obj id14 [.nils, .nils]] := hO22.front 1 rfl rfl
      have hO150 : Own σ [] s21 [.obj id14 [.nils, .nils], .obj id10 [u1, u3]] := hO149.front 1 rfl rfl
      exact iterQ_exit (.inl <| ⟨_, rfl, rfl, s21, (hO150.sub 2 rfl), (Le_fr ⟨rfl, ⟨rfl, trivial⟩⟩)⟩)
  · skip
    rintro eq19 zq19 (⟨p23, rfl, rfl, s24, hO25, hz151⟩ | ⟨p26, rfl, rfl, hdp26⟩)
    · skip
      try dsimp only at hF
      with_unfolding_all refine blockQ_out ?_
      with_unfolding_all refine thenQ_normal ?_
      refine TE_pre hz151 ?_
      with_unfolding_all refine TE_seq ?_
      with_unfolding_all refine TE_seqY ?_
      have hM152 := MB_none s24
      with_unfolding_all refine TX_load_p rfl (MC_none (hO25.obj 1 rfl)) rfl ?_
      with_unfolding_all refine TY_store (v := .agg [u1, u3]) (vc := [u1, u3]) hO25 hM152 (MNe.none _) rfl rfl rfl rfl (by with_unfolding_all exact Nat.le_of_ble_eq_true rfl) (ones_cons (RS.one1 h2) (ones_cons (RS.one1 h4) ones_nil)) rfl ?_
      rintro s153 (hO154 : Own σ [] s153 [.obj id14 [u1, u3], .obj id10 [u1, u3]]) hM155
      with_unfolding_all refine TX_assign rfl ?_
      with_unfolding_all refine TX_nil ?_
      with_unfolding_all refine thenQ_normal ?_
      with_unfolding_all refine TE_ret ?_
      obtain rfl := some_s hF
      exact done_any (vs := [.agg [u1, u3], .bool (true)]) (.inr rfl) rfl (resR_cell rfl (hO154.obj 0 rfl) rfl (resR_tmp rfl resR_nil)) ⟨⟨_, _, rfl, ⟨u1, u3, rfl, h2, h4⟩, rfl⟩, hO154.ext⟩
    · skip
      try dsimp only at hF
      with_unfolding_all refine blockQ_ret ?_
      with_unfolding_all refine thenQ_ret ?_
      obtain rfl := some_s hF
      exact hdp26
theorem match_Text_Apart_ok {x0_ : match_Text} {x1_ : (List match_Match)} {x2_ : Int} {y : (List match_Match)} (hF : F.match_Text_Apart x0_ x1_ x2_ = some y) {v0_ : AV} {v1_ : AV} {v2_ : AV} {σ : Mem} (h0_ : e_match_Text.rel v0_ x0_) (h1_ : (RS e_match_Match) v1_ x1_) (h2_ : (eI .i64).rel v2_ x2_)  :
    CallE Try.prog 46 [v0_, v1_, v2_] σ (fun v σ' => (RS e_match_Match) v y ∧ Ext σ σ') := by
  unfold F.match_Text_Apart at hF
  obtain ⟨u1, u3, rfl, h2, h4⟩ := h0_
  obtain rfl := h2_
  refine CallE_of Try.func46 rfl Try.ntmps46 (by simp) ?_
  have hO0 := Own.start σ
  with_unfolding_all refine TE_seq ?_
  with_unfolding_all refine TE_seqY ?_
  have hM5 := MB_none σ
  with_unfolding_all refine TY_box hO0 hM5 rfl rfl ?_
  rintro id6 s7 (hO8 : Own σ [] s7 [.obj id6 [.int .i64 (x0_.From), .int .i64 (x0_.To), u1, u3]]) hM9
  with_unfolding_all refine TY_box hO8 hM9 rfl rfl ?_
  rintro id10 s11 (hO12 : Own σ [] s11 [.obj id10 [.int .i64 (x2_)], .obj id6 [.int .i64 (x0_.From), .int .i64 (x0_.To), u1, u3]]) hM13
  with_unfolding_all refine TX_assign rfl ?_
  with_unfolding_all refine TX_nil ?_
  with_unfolding_all refine thenQ_normal ?_
  with_unfolding_all refine TE_seq ?_
  obtain ⟨x14, h15, hF⟩ := bind_s hF
  with_unfolding_all refine TE_seqY ?_
  have hM16 := MB_none s11
  with_unfolding_all refine TX_move rfl ?_
  with_unfolding_all refine TX_makeFunc rfl rfl ?_
  have hc23 : CallE Try.prog 59 [v1_, .fn (.func 80) [] [.ptr id6 0, .ptr id10 0]] s11 _ := match_keep_ok h15 h1_ ⟨80, [], [.ptr id6 0, .ptr id10 0], rfl, en80, fun _ hX17 v18 x19 y21 h20 hy22 => match_Text_Apart_1_ok hy22 h20 ⟨u1, u3, rfl, h2, h4⟩ (hX17.get (hO12.obj 1 rfl)) rfl (hX17.get (hO12.obj 0 rfl))⟩
  with_unfolding_all refine TY_call hM16 rfl en59 hc23 ?_
  intro v24 s28 hv25 hX26 hM27
  have hO29 := hO12.ext_call hX26
  with_unfolding_all refine TX_assign rfl ?_
  with_unfolding_all refine TX_nil ?_
  with_unfolding_all refine thenQ_normal ?_
  with_unfolding_all refine TE_ret ?_
  obtain rfl := some_s hF
  exact done_any (vs := [v24]) (.inr rfl) rfl (resR_tmp rfl resR_nil) ⟨hv25, hO29.ext⟩
theorem law12_MatchWindows_ok {x0_ : (List match_Match)} {x1_ : (List Int)} {x2_ : (List Int)} {x3_ : Int} {x4_ : Int} {y : Bool} (hF : F.law12_MatchWindows x0_ x1_ x2_ x3_ x4_ = some y) {v0_ : AV} {v1_ : AV} {v2_ : AV} {v3_ : AV} {v4_ : AV} {σ : Mem} (h0_ : (RS e_match_Match) v0_ x0_) (h1_ : (RS (eI .i64)) v1_ x1_) (h2_ : (RS (eI .i64)) v2_ x2_) (h3_ : (eI .i64).rel v3_ x3_) (h4_ : (eI .i64).rel v4_ x4_)  :
    CallE Try.prog 10 [v0_, v1_, v2_, v3_, v4_] σ (fun v σ' => eB.rel v y ∧ Ext σ σ') := by
  unfold F.law12_MatchWindows at hF
  obtain rfl := h3_
  obtain rfl := h4_
  refine CallE_of Try.func10 rfl Try.ntmps10 (by simp) ?_
  have hO0 := Own.start σ
  with_unfolding_all refine TE_seq ?_
  with_unfolding_all refine TE_seqY ?_
  have hM1 := MB_none σ
  with_unfolding_all refine TY_box hO0 hM1 rfl (RS.cells h0_) ?_
  rintro id2 s3 (hO4 : Own σ [] s3 [.obj id2 [v0_]]) hM5
  with_unfolding_all refine TX_assign rfl ?_
  with_unfolding_all refine TX_nil ?_
  with_unfolding_all refine thenQ_normal ?_
  with_unfolding_all refine TE_seq ?_
  with_unfolding_all refine TE_seq ?_
  obtain ⟨x6, h7, hF⟩ := bind_s hF
  with_unfolding_all refine TE_seqY ?_
  have hM8 := MB_none s3
  have hc9 : CallE Try.prog 14 [] s3 _ := law12_head_ok h7 
  with_unfolding_all refine TY_call hM8 rfl en14 hc9 ?_
  intro v10 s14 hv11 hX12 hM13
  have hO15 := hO4.ext_call hX12
  obtain rfl := hv11
  with_unfolding_all refine TX_not rfl ?_
  with_unfolding_all refine TX_nil ?_
  with_unfolding_all refine thenQ_normal ?_
  with_unfolding_all refine TE_cond rfl (fun hc16 => ?_) (fun hc16 => ?_)
  · skip
    replace hF := ite_t hc16 hF
    with_unfolding_all refine TE_seq ?_
    with_unfolding_all refine TE_seqY ?_
    have hM17 := MB_none s14
    with_unfolding_all refine TX_assign rfl ?_
    with_unfolding_all refine TX_nil ?_
    with_unfolding_all refine thenQ_normal ?_
    with_unfolding_all refine TE_ret ?_
    with_unfolding_all refine thenQ_ret ?_
    obtain rfl := some_s hF
    exact done_any (vs := [.bool (false)]) (.inr rfl) rfl (resR_tmp rfl resR_nil) ⟨rfl, hO15.ext⟩
  · skip
    replace hF := ite_f hc16 hF
    with_unfolding_all refine TE_skip ?_
    with_unfolding_all refine thenQ_normal ?_
    with_unfolding_all refine TE_seq ?_
    with_unfolding_all refine TE_seq ?_
    obtain ⟨x18, h19, hF⟩ := bind_s hF
    with_unfolding_all refine TE_seqY ?_
    have hM20 := MB_none s14
    with_unfolding_all refine TX_load_p rfl (MC_none (hO15.obj 0 rfl)) rfl ?_
    have hc21 : CallE Try.prog 15 [v0_, .int .i64 (30)] s14 _ := law12_Good_ok h19 h0_ rfl
    with_unfolding_all refine TY_call hM20 rfl en15 hc21 ?_
    intro v22 s26 hv23 hX24 hM25
    have hO27 := hO15.ext_call hX24
    obtain rfl := hv23
    with_unfolding_all refine TX_not rfl ?_
    with_unfolding_all refine TX_nil ?_
    with_unfolding_all refine thenQ_normal ?_
    with_unfolding_all refine TE_cond rfl (fun hc28 => ?_) (fun hc28 => ?_)
    · skip
      replace hF := ite_t hc28 hF
      with_unfolding_all refine TE_seq ?_
      with_unfolding_all refine TE_seqY ?_
      have hM29 := MB_none s26
      with_unfolding_all refine TX_assign rfl ?_
      with_unfolding_all refine TX_nil ?_
      with_unfolding_all refine thenQ_normal ?_
      with_unfolding_all refine TE_ret ?_
      with_unfolding_all refine thenQ_ret ?_
      obtain rfl := some_s hF
      exact done_any (vs := [.bool (true)]) (.inr rfl) rfl (resR_tmp rfl resR_nil) ⟨rfl, hO27.ext⟩
    · skip
      replace hF := ite_f hc28 hF
      with_unfolding_all refine TE_skip ?_
      with_unfolding_all refine thenQ_normal ?_
      with_unfolding_all refine TE_seq ?_
      obtain ⟨x30, h31, hF⟩ := bind_s hF
      obtain ⟨x32, h33, hF⟩ := bind_s hF
      with_unfolding_all refine TE_seqY ?_
      have hM34 := MB_none s26
      with_unfolding_all refine TX_move rfl ?_
      have hc35 : CallE Try.prog 34 [v1_] s26 _ := law12_up_ok h31 h1_
      with_unfolding_all refine TY_call hM34 rfl en34 hc35 ?_
      intro v36 s40 hv37 hX38 hM39
      have hO41 := hO27.ext_call hX38
      with_unfolding_all refine TX_move rfl ?_
      have hc42 : CallE Try.prog 34 [v2_] s40 _ := law12_up_ok h33 h2_
      with_unfolding_all refine TY_call hM39 rfl en34 hc42 ?_
      intro v43 s47 hv44 hX45 hM46
      have hO48 := hO41.ext_call hX45
      with_unfolding_all refine TY_build [.int .i64 (0), .int .i64 (1000), v36, v43] rfl rfl rfl (by with_unfolding_all exact Fill.cons rfl rfl rfl (by with_unfolding_all exact Nat.le_of_ble_eq_true rfl) (Fill.cons rfl rfl rfl (by with_unfolding_all exact Nat.le_of_ble_eq_true rfl) (Fill.cons rfl (RS.cells hv37) rfl (by with_unfolding_all exact Nat.le_of_ble_eq_true rfl) (Fill.cons rfl (RS.cells hv44) rfl (by with_unfolding_all exact Nat.le_of_ble_eq_true rfl) (Fill.nil _))))) (by with_unfolding_all rfl) ?_
      with_unfolding_all refine TY_alloc hO48 hM46 rfl rfl ?_
      rintro id49 s50 (hO51 : Own σ [] s50 [.obj id49 [.int .i64 (0), .int .i64 (0), .nils, .nils], .obj id2 [v0_]]) hM52
      with_unfolding_all refine TY_store (v := .agg [.int .i64 (0), .int .i64 (1000), v36, v43]) (vc := [.int .i64 (0), .int .i64 (1000), v36, v43]) hO51 hM52 (MNe.none _) rfl rfl rfl rfl (by with_unfolding_all exact Nat.le_of_ble_eq_true rfl) (ones_cons rfl (ones_cons rfl (ones_cons (RS.one1 hv37) (ones_cons (RS.one1 hv44) ones_nil)))) rfl ?_
      rintro s53 (hO54 : Own σ [] s53 [.obj id49 [.int .i64 (0), .int .i64 (1000), v36, v43], .obj id2 [v0_]]) hM55
      with_unfolding_all refine TX_nil ?_
      with_unfolding_all refine thenQ_normal ?_
      with_unfolding_all refine TE_seq ?_
      with_unfolding_all refine TE_seqY ?_
      have hM56 := MB_none s53
      with_unfolding_all refine TX_move rfl ?_
      with_unfolding_all refine TX_convInt rfl rfl rfl ?_
      with_unfolding_all refine TX_div rfl rfl (by decide) rfl ?_
      with_unfolding_all refine TX_convInt rfl rfl rfl ?_
      with_unfolding_all refine TY_alloc hO54 hM56 rfl rfl ?_
      rintro id57 s58 (hO59 : Own σ [] s58 [.obj id57 [.int .i64 (0)], .obj id49 [.int .i64 (0), .int .i64 (1000), v36, v43], .obj id2 [v0_]]) hM60
      with_unfolding_all refine TY_store (v := .int .i64 ((IntKind.wrap .i64 (Int.tmod (IntKind.wrap .u64 x4_) 3)))) (vc := [.int .i64 ((IntKind.wrap .i64 (Int.tmod (IntKind.wrap .u64 x4_) 3)))]) hO59 hM60 (MNe.none _) rfl rfl rfl rfl (by with_unfolding_all exact Nat.le_of_ble_eq_true rfl) (ones_cons rfl ones_nil) rfl ?_
      rintro s61 (hO62 : Own σ [] s61 [.obj id57 [.int .i64 ((IntKind.wrap .i64 (Int.tmod (IntKind.wrap .u64 x4_) 3)))], .obj id49 [.int .i64 (0), .int .i64 (1000), v36, v43], .obj id2 [v0_]]) hM63
      with_unfolding_all refine TX_nil ?_
      with_unfolding_all refine thenQ_normal ?_
      with_unfolding_all refine TE_seq ?_
      with_unfolding_all refine TE_seqY ?_
      have hM64 := MB_none s61
      with_unfolding_all refine TX_makeFunc rfl rfl ?_
      with_unfolding_all refine TY_alloc hO62 hM64 rfl rfl ?_
      rintro id65 s66 (hO67 : Own σ [] s66 [.obj id65 [.nilf], .obj id57 [.int .i64 ((IntKind.wrap .i64 (Int.tmod (IntKind.wrap .u64 x4_) 3)))], .obj id49 [.int .i64 (0), .int .i64 (1000), v36, v43], .obj id2 [v0_]]) hM68
      with_unfolding_all refine TY_store (v := .fn (.func 35) [] [.ptr id49 0, .ptr id57 0]) (vc := [.fn (.func 35) [] [.ptr id49 0, .ptr id57 0]]) hO67 hM68 (MNe.none _) rfl rfl rfl rfl (by with_unfolding_all exact Nat.le_of_ble_eq_true rfl) (ones_cons rfl ones_nil) rfl ?_
      rintro s69 (hO70 : Own σ [] s69 [.obj id65 [.fn (.func 35) [] [.ptr id49 0, .ptr id57 0]], .obj id57 [.int .i64 ((IntKind.wrap .i64 (Int.tmod (IntKind.wrap .u64 x4_) 3)))], .obj id49 [.int .i64 (0), .int .i64 (1000), v36, v43], .obj id2 [v0_]]) hM71
      with_unfolding_all refine TX_nil ?_
      with_unfolding_all refine thenQ_normal ?_
      with_unfolding_all refine TE_seq ?_
      with_unfolding_all refine TE_seqY ?_
      have hM72 := MB_none s69
      with_unfolding_all refine TX_makeFunc rfl rfl ?_
      with_unfolding_all refine TX_assign rfl ?_
      with_unfolding_all refine TX_nil ?_
      with_unfolding_all refine thenQ_normal ?_
      with_unfolding_all refine TE_seq ?_
      obtain ⟨x73, h74, hF⟩ := bind_s hF
      with_unfolding_all refine TE_seqY ?_
      have hM75 := MB_none s69
      with_unfolding_all refine TX_load_p rfl (MC_none (hO70.obj 3 rfl)) rfl ?_
      with_unfolding_all refine TX_makeFunc rfl rfl ?_
      have hc91 : CallE Try.prog 29 [v0_, .fn (.func 41) [] [.ptr id49 0, .ptr id57 0], .fn (.func 42) [] []] s69 _ := law12_filter_ok h74 h0_ ⟨41, [], [.ptr id49 0, .ptr id57 0], rfl, en41, fun _ hX76 v77 x78 y80 h79 hy81 => law12_MatchWindows_3_ok hy81 h79 ⟨v36, v43, rfl, hv37, hv44⟩ (hX76.get (hO70.obj 2 rfl)) rfl (hX76.get (hO70.obj 1 rfl))⟩ ⟨42, [], [], rfl, en42, fun _ hX82 v83 x84 v86 x87 y89 h85 h88 hy90 => law12_all_ok hy90 h85 h88 ⟩
      with_unfolding_all refine TY_call hM75 rfl en29 hc91 ?_
      intro v92 s96 hv93 hX94 hM95
      have hO97 := hO70.ext_call hX94
      with_unfolding_all refine TX_assign rfl ?_
      with_unfolding_all refine TX_nil ?_
      with_unfolding_all refine thenQ_normal ?_
      with_unfolding_all refine TE_seq ?_
      with_unfolding_all refine TE_seq ?_
      with_unfolding_all refine TE_seqY ?_
      have hM98 := MB_none s96
      with_unfolding_all refine TX_assign rfl ?_
      with_unfolding_all refine TX_nil ?_
      with_unfolding_all refine thenQ_normal ?_
      with_unfolding_all refine TE_block ?_
      obtain ⟨a107, h108, hF⟩ := bind_s hF
      refine TE_iter (f := F.law12_MatchWindows_s1 x4_ x30 x32) (s0 := 0) (a := a107) (fun (q99 : Int) z => ∃ (s101 : Mem), Own σ [] s101 [.obj id65 [.fn (.func 35) [] [.ptr id49 0, .ptr id57 0]], .obj id57 [.int .i64 ((IntKind.wrap .i64 (Int.tmod (IntKind.wrap .u64 x4_) 3)))], .obj id49 [.int .i64 (0), .int .i64 (1000), v36, v43], .obj id2 [v0_]] ∧ Le z ⟨fr 75 [(3, .int .i64 (x3_)), (5, .ptr id2 0), (11, .ptr id49 0), (12, .ptr id57 0), (14, .fn (.func 37) [] [.ptr id2 0, .ptr id65 0]), (15, v92), (16, .int .i64 (q99))], [], s101⟩) (fun (a : (Unit ⊕ Bool)) e z => (∃ p103 : Unit, a = (.inl p103) ∧ e = .exit 0 ∧ ∃ (s104 : Mem), Own σ [] s104 [.obj id65 [.fn (.func 35) [] [.ptr id49 0, .ptr id57 0]], .obj id57 [.int .i64 ((IntKind.wrap .i64 (Int.tmod (IntKind.wrap .u64 x4_) 3)))], .obj id49 [.int .i64 (0), .int .i64 (1000), v36, v43], .obj id2 [v0_]] ∧ Le z ⟨fr 75 [(3, .int .i64 (x3_)), (5, .ptr id2 0), (11, .ptr id49 0), (12, .ptr id57 0), (14, .fn (.func 37) [] [.ptr id2 0, .ptr id65 0]), (15, v92)], [], s104⟩) ∨ (∃ p106 : Bool, a = (.inr (p106)) ∧ e = .ret ∧ doneQ Try.prog Try.f10 (fun v σ' => eB.rel v p106 ∧ Ext σ σ') .ret z)) h108 ?_ ?_ ?_
      · skip
        have hO109 : Own σ [] s96 [.obj id2 [v0_], .obj id65 [.fn (.func 35) [] [.ptr id49 0, .ptr id57 0]], .obj id57 [.int .i64 ((IntKind.wrap .i64 (Int.tmod (IntKind.wrap .u64 x4_) 3)))], .obj id49 [.int .i64 (0), .int .i64 (1000), v36, v43]] := hO97.front 3 rfl rfl
        have hO110 : Own σ [] s96 [.obj id49 [.int .i64 (0), .int .i64 (1000), v36, v43], .obj id2 [v0_], .obj id65 [.fn (.func 35) [] [.ptr id49 0, .ptr id57 0]], .obj id57 [.int .i64 ((IntKind.wrap .i64 (Int.tmod (IntKind.wrap .u64 x4_) 3)))]] := hO109.front 3 rfl rfl
        have hO111 : Own σ [] s96 [.obj id57 [.int .i64 ((IntKind.wrap .i64 (Int.tmod (IntKind.wrap .u64 x4_) 3)))], .obj id49 [.int .i64 (0), .int .i64 (1000), v36, v43], .obj id2 [v0_], .obj id65 [.fn (.func 35) [] [.ptr id49 0, .ptr id57 0]]] := hO110.front 3 rfl rfl
        have hO112 : Own σ [] s96 [.obj id65 [.fn (.func 35) [] [.ptr id49 0, .ptr id57 0]], .obj id57 [.int .i64 ((IntKind.wrap .i64 (Int.tmod (IntKind.wrap .u64 x4_) 3)))], .obj id49 [.int .i64 (0), .int .i64 (1000), v36, v43], .obj id2 [v0_]] := hO111.front 3 rfl rfl
        exact ⟨s96, (hO112.sub 4 rfl), (Le_fr ⟨rfl, ⟨rfl, ⟨rfl, ⟨rfl, ⟨rfl, ⟨rfl, ⟨rfl, trivial⟩⟩⟩⟩⟩⟩⟩)⟩
      · skip
        clear hF
        rintro q99 zq99 r100 ⟨s101, hO102, hz113⟩ hF
        unfold F.law12_MatchWindows_s1 at hF
        refine TE_pre hz113 ?_
        with_unfolding_all refine TE_seq ?_
        with_unfolding_all refine TE_seq ?_
        with_unfolding_all refine TE_seqY ?_
        have hM114 := MB_none s101
        with_unfolding_all refine TX_move rfl ?_
        with_unfolding_all refine TX_cmp rfl rfl rfl ?_
        with_unfolding_all refine TX_nil ?_
        with_unfolding_all refine thenQ_normal ?_
        with_unfolding_all refine TE_cond rfl (fun hc115 => ?_) (fun hc115 => ?_)
        · skip
          replace hF := ite_t hc115 hF
          with_unfolding_all refine TE_skip ?_
          with_unfolding_all refine thenQ_normal ?_
          with_unfolding_all refine TE_seq ?_
          with_unfolding_all refine TE_block ?_
          with_unfolding_all refine TE_seq ?_
          obtain ⟨x116, h117, hF⟩ := bind_s hF
          obtain ⟨x118, h119, hF⟩ := bind_s hF
          have hB120 : Bs [(id49, [.int .i64 (0), .int .i64 (1000), v36, v43]), (id57, [.int .i64 ((IntKind.wrap .i64 (Int.tmod (IntKind.wrap .u64 x4_) 3)))])] s101 := Bs.cons (hO102.obj 2 rfl) (Bs.cons (hO102.obj 1 rfl) (Bs.nil _))
          with_unfolding_all refine TE_drawY [(id49, [.int .i64 (0), .int .i64 (1000), v36, v43]), (id57, [.int .i64 ((IntKind.wrap .i64 (Int.tmod (IntKind.wrap .u64 x4_) 3)))])] (by with_unfolding_all rfl) (by kernel_rfl) hB120 ?_
          have hM121 := MB_some hB120
          with_unfolding_all refine TX_load_p rfl (MC_some 0 rfl) rfl ?_
          with_unfolding_all refine TX_load_p rfl (MC_some 1 rfl) rfl ?_
          with_unfolding_all refine TX_move rfl ?_
          have hc122 : CallE Try.prog 43 [.agg [.int .i64 (0), .int .i64 (1000), v36, v43], .int .i64 ((IntKind.wrap .i64 (Int.tmod (IntKind.wrap .u64 x4_) 3))), .int .i64 (q99)] s101 _ := match_Text_Rank_ok h117 ⟨v36, v43, rfl, hv37, hv44⟩ rfl rfl
          with_unfolding_all refine TY_call hM121 rfl en43 hc122 ?_
          intro v123 s127 hv124 hX125 hM126
          have hO128 := hO102.ext_call hX125
          obtain rfl := hv124
          with_unfolding_all refine TX_load_p rfl (MC_some 0 rfl) rfl ?_
          with_unfolding_all refine TX_load_p rfl (MC_some 1 rfl) rfl ?_
          with_unfolding_all refine TX_move rfl ?_
          have hc129 : CallE Try.prog 36 [.agg [.int .i64 (0), .int .i64 (1000), v36, v43], .int .i64 ((IntKind.wrap .i64 (Int.tmod (IntKind.wrap .u64 x4_) 3))), .int .i64 (q99)] s127 _ := law12_rank_ok h119 ⟨v36, v43, rfl, hv37, hv44⟩ rfl rfl
          with_unfolding_all refine TY_call hM126 rfl en36 hc129 ?_
          intro v130 s134 hv131 hX132 hM133
          have hO135 := hO128.ext_call hX132
          obtain rfl := hv131
          with_unfolding_all refine TX_cmp rfl rfl rfl ?_
          with_unfolding_all refine TX_nil ?_
          with_unfolding_all refine thenQ_normal ?_
          with_unfolding_all refine TE_cond rfl (fun hc136 => ?_) (fun hc136 => ?_)
          · skip
            replace hF := ite_t hc136 hF
            with_unfolding_all refine TE_seq ?_
            with_unfolding_all refine TE_seqY ?_
            have hM137 := MB_none s134
            with_unfolding_all refine TX_assign rfl ?_
            with_unfolding_all refine TX_nil ?_
            with_unfolding_all refine thenQ_normal ?_
            with_unfolding_all refine TE_ret ?_
            with_unfolding_all refine blockQ_ret ?_
            with_unfolding_all refine thenQ_ret ?_
            obtain rfl := some_s hF
            exact iterQ_ret (.inr <| ⟨_, rfl, rfl, (done_any (vs := [.bool (false)]) (.inr rfl) rfl (resR_tmp rfl resR_nil) ⟨rfl, hO135.ext⟩)⟩)
          · skip
            replace hF := ite_f hc136 hF
            with_unfolding_all refine TE_skip ?_
            with_unfolding_all refine blockQ_normal ?_
            with_unfolding_all refine thenQ_normal ?_
            with_unfolding_all refine TE_seqY ?_
            have hM138 := MB_none s134
            with_unfolding_all refine TX_move rfl ?_
            with_unfolding_all refine TX_ari rfl rfl rfl ?_
            with_unfolding_all refine TX_assign rfl ?_
            with_unfolding_all refine TX_nil ?_
            obtain rfl := some_s hF
            have hO139 : Own σ [] s134 [.obj id2 [v0_], .obj id65 [.fn (.func 35) [] [.ptr id49 0, .ptr id57 0]], .obj id57 [.int .i64 ((IntKind.wrap .i64 (Int.tmod (IntKind.wrap .u64 x4_) 3)))], .obj id49 [.int .i64 (0), .int .i64 (1000), v36, v43]] := hO135.front 3 rfl rfl
            have hO140 : Own σ [] s134 [.obj id49 [.int .i64 (0), .int .i64 (1000), v36, v43], .obj id2 [v0_], .obj id65 [.fn (.func 35) [] [.ptr id49 0, .ptr id57 0]], .obj id57 [.int .i64 ((IntKind.wrap .i64 (Int.tmod (IntKind.wrap .u64 x4_) 3)))]] := hO139.front 3 rfl rfl
            have hO141 : Own σ [] s134 [.obj id57 [.int .i64 ((IntKind.wrap .i64 (Int.tmod (IntKind.wrap .u64 x4_) 3)))], .obj id49 [.int .i64 (0), .int .i64 (1000), v36, v43], .obj id2 [v0_], .obj id65 [.fn (.func 35) [] [.ptr id49 0, .ptr id57 0]]] := hO140.front 3 rfl rfl
            have hO142 : Own σ [] s134 [.obj id65 [.fn (.func 35) [] [.ptr id49 0, .ptr id57 0]], .obj id57 [.int .i64 ((IntKind.wrap .i64 (Int.tmod (IntKind.wrap .u64 x4_) 3)))], .obj id49 [.int .i64 (0), .int .i64 (1000), v36, v43], .obj id2 [v0_]] := hO141.front 3 rfl rfl
            exact iterQ_again ⟨s134, (hO142.sub 4 rfl), (Le_fr ⟨rfl, ⟨rfl, ⟨rfl, ⟨rfl, ⟨rfl, ⟨rfl, ⟨rfl, trivial⟩⟩⟩⟩⟩⟩⟩)⟩
        · skip
          replace hF := ite_f hc115 hF
          with_unfolding_all refine TE_exit ?_
          with_unfolding_all refine thenQ_exit ?_
          obtain rfl := some_s hF
          have hO143 : Own σ [] s101 [.obj id2 [v0_], .obj id65 [.fn (.func 35) [] [.ptr id49 0, .ptr id57 0]], .obj id57 [.int .i64 ((IntKind.wrap .i64 (Int.tmod (IntKind.wrap .u64 x4_) 3)))], .obj id49 [.int .i64 (0), .int .i64 (1000), v36, v43]] := hO102.front 3 rfl rfl
          have hO144 : Own σ [] s101 [.obj id49 [.int .i64 (0), .int .i64 (1000), v36, v43], .obj id2 [v0_], .obj id65 [.fn (.func 35) [] [.ptr id49 0, .ptr id57 0]], .obj id57 [.int .i64 ((IntKind.wrap .i64 (Int.tmod (IntKind.wrap .u64 x4_) 3)))]] := hO143.front 3 rfl rfl
          have hO145 : Own σ [] s101 [.obj id57 [.int .i64 ((IntKind.wrap .i64 (Int.tmod (IntKind.wrap .u64 x4_) 3)))], .obj id49 [.int .i64 (0), .int .i64 (1000), v36, v43], .obj id2 [v0_], .obj id65 [.fn (.func 35) [] [.ptr id49 0, .ptr id57 0]]] := hO144.front 3 rfl rfl
          have hO146 : Own σ [] s101 [.obj id65 [.fn (.func 35) [] [.ptr id49 0, .ptr id57 0]], .obj id57 [.int .i64 ((IntKind.wrap .i64 (Int.tmod (IntKind.wrap .u64 x4_) 3)))], .obj id49 [.int .i64 (0), .int .i64 (1000), v36, v43], .obj id2 [v0_]] := hO145.front 3 rfl rfl
          exact iterQ_exit (.inl <| ⟨_, rfl, rfl, s101, (hO146.sub 4 rfl), (Le_fr ⟨rfl, ⟨rfl, ⟨rfl, ⟨rfl, ⟨rfl, ⟨rfl, trivial⟩⟩⟩⟩⟩⟩)⟩)
      · skip
        rintro eq99 zq99 (⟨p103, rfl, rfl, s104, hO105, hz147⟩ | ⟨p106, rfl, rfl, hdp106⟩)
        · skip
          try dsimp only at hF
          with_unfolding_all refine blockQ_out ?_
          with_unfolding_all refine thenQ_normal ?_
          refine TE_pre hz147 ?_
          with_unfolding_all refine TE_seq ?_
          obtain ⟨x148, h149, hF⟩ := bind_s hF
          obtain ⟨x150, h151, hF⟩ := bind_s hF
          obtain ⟨x152, h153, hF⟩ := bind_s hF
          obtain ⟨r160, h161, hF⟩ := bind_s hF
          obtain ⟨r166, h167, hF⟩ := bind_s hF
          with_unfolding_all refine TE_seqY ?_
          have hM168 := MB_none s104
          with_unfolding_all refine TX_load_p rfl (MC_none (hO105.obj 2 rfl)) rfl ?_
          with_unfolding_all refine TX_load_p rfl (MC_none (hO105.obj 3 rfl)) rfl ?_
          with_unfolding_all refine TX_move rfl ?_
          with_unfolding_all refine TX_load_p rfl (MC_none (hO105.obj 1 rfl)) rfl ?_
          have hc169 : CallE Try.prog 44 [.agg [.int .i64 (0), .int .i64 (1000), v36, v43], v0_, .int .i64 (x3_), .int .i64 ((IntKind.wrap .i64 (Int.tmod (IntKind.wrap .u64 x4_) 3)))] s104 _ := match_Text_Window_ok h149 ⟨v36, v43, rfl, hv37, hv44⟩ h0_ rfl rfl
          with_unfolding_all refine TY_call hM168 rfl en44 hc169 ?_
          intro v170 s174 hv171 hX172 hM173
          have hO175 := hO105.ext_call hX172
          with_unfolding_all refine TX_move rfl ?_
          with_unfolding_all refine TX_move rfl ?_
          have hc182 : CallE Try.prog 37 [.int .i64 (x3_), .ptr id2 0, .ptr id65 0] s174 _ := law12_MatchWindows_2_ok h151 rfl h0_ (by rw [RS.cells h0_]; exact hO175.obj 3 rfl) ⟨35, [], [.ptr id49 0, .ptr id57 0], rfl, en35, fun _ hX176 v177 x178 y180 h179 hy181 => law12_MatchWindows_1_ok hy181 h179 ⟨v36, v43, rfl, hv37, hv44⟩ (hX176.get (hO175.obj 2 rfl)) rfl (hX176.get (hO175.obj 1 rfl))⟩ (hO175.obj 0 rfl)
          with_unfolding_all refine TY_call hM173 rfl en37 hc182 ?_
          intro v183 s187 hv184 hX185 hM186
          have hO188 := hO175.ext_call hX185
          have hc189 : CallE Try.prog 16 [v170, v183] s187 _ := law12_Same_ok h153 hv171 hv184
          with_unfolding_all refine TY_call hM186 rfl en16 hc189 ?_
          intro v190 s194 hv191 hX192 hM193
          have hO195 := hO188.ext_call hX192
          obtain rfl := hv191
          with_unfolding_all refine TX_move rfl ?_
          with_unfolding_all refine TX_guard_t rfl rfl (fun hc196 => ?_) (fun hc196 => ?_)
          · skip
            replace h161 := ite_t hc196 h161
            obtain ⟨x154, h155, h161⟩ := bind_s h161
            obtain ⟨x156, h157, h161⟩ := bind_s h161
            obtain ⟨x158, h159, h161⟩ := bind_s h161
            with_unfolding_all refine TX_load_p rfl (MC_none (hO195.obj 2 rfl)) rfl ?_
            with_unfolding_all refine TX_guard_yes rfl rfl hc196 ?_
            with_unfolding_all refine TX_load_p rfl (MC_none (hO195.obj 3 rfl)) rfl ?_
            with_unfolding_all refine TX_guard_yes rfl rfl hc196 ?_
            with_unfolding_all refine TX_load_p rfl (MC_none (hO195.obj 1 rfl)) rfl ?_
            with_unfolding_all refine TX_guard_yes rfl rfl hc196 ?_
            have hc197 : CallE Try.prog 45 [.agg [.int .i64 (0), .int .i64 (1000), v36, v43], v0_, .int .i64 ((IntKind.wrap .i64 (Int.tmod (IntKind.wrap .u64 x4_) 3)))] s194 _ := match_Text_Same_ok h155 ⟨v36, v43, rfl, hv37, hv44⟩ h0_ rfl
            with_unfolding_all refine TY_call hM193 rfl en45 hc197 ?_
            intro v198 s202 hv199 hX200 hM201
            have hO203 := hO195.ext_call hX200
            with_unfolding_all refine TX_guard_yes rfl rfl hc196 ?_
            with_unfolding_all refine TX_move rfl ?_
            with_unfolding_all refine TX_guard_yes rfl rfl hc196 ?_
            have hc210 : CallE Try.prog 37 [.int .i64 (1), .ptr id2 0, .ptr id65 0] s202 _ := law12_MatchWindows_2_ok h157 rfl h0_ (by rw [RS.cells h0_]; exact hO203.obj 3 rfl) ⟨35, [], [.ptr id49 0, .ptr id57 0], rfl, en35, fun _ hX204 v205 x206 y208 h207 hy209 => law12_MatchWindows_1_ok hy209 h207 ⟨v36, v43, rfl, hv37, hv44⟩ (hX204.get (hO203.obj 2 rfl)) rfl (hX204.get (hO203.obj 1 rfl))⟩ (hO203.obj 0 rfl)
            with_unfolding_all refine TY_call hM201 rfl en37 hc210 ?_
            intro v211 s215 hv212 hX213 hM214
            have hO216 := hO203.ext_call hX213
            with_unfolding_all refine TX_guard_yes rfl rfl hc196 ?_
            have hc217 : CallE Try.prog 16 [v198, v211] s215 _ := law12_Same_ok h159 hv199 hv212
            with_unfolding_all refine TY_call hM214 rfl en16 hc217 ?_
            intro v218 s222 hv219 hX220 hM221
            have hO223 := hO216.ext_call hX220
            obtain rfl := hv219
            with_unfolding_all refine TX_pick_t rfl hc196 rfl ?_
            obtain rfl := some_s h161
            with_unfolding_all refine TX_move rfl ?_
            with_unfolding_all refine TX_guard_t rfl rfl (fun hc224 => ?_) (fun hc224 => ?_)
            · skip
              replace h167 := ite_t hc224 h167
              obtain ⟨x162, h163, h167⟩ := bind_s h167
              obtain ⟨x164, h165, h167⟩ := bind_s h167
              with_unfolding_all refine TX_load_p rfl (MC_none (hO223.obj 2 rfl)) rfl ?_
              with_unfolding_all refine TX_guard_yes rfl rfl hc224 ?_
              with_unfolding_all refine TX_load_p rfl (MC_none (hO223.obj 3 rfl)) rfl ?_
              with_unfolding_all refine TX_guard_yes rfl rfl hc224 ?_
              with_unfolding_all refine TX_load_p rfl (MC_none (hO223.obj 1 rfl)) rfl ?_
              with_unfolding_all refine TX_guard_yes rfl rfl hc224 ?_
              have hc225 : CallE Try.prog 46 [.agg [.int .i64 (0), .int .i64 (1000), v36, v43], v0_, .int .i64 ((IntKind.wrap .i64 (Int.tmod (IntKind.wrap .u64 x4_) 3)))] s222 _ := match_Text_Apart_ok h163 ⟨v36, v43, rfl, hv37, hv44⟩ h0_ rfl
              with_unfolding_all refine TY_call hM221 rfl en46 hc225 ?_
              intro v226 s230 hv227 hX228 hM229
              have hO231 := hO223.ext_call hX228
              with_unfolding_all refine TX_guard_yes rfl rfl hc224 ?_
              with_unfolding_all refine TX_move rfl ?_
              with_unfolding_all refine TX_guard_yes rfl rfl hc224 ?_
              have hc232 : CallE Try.prog 16 [v226, v92] s230 _ := law12_Same_ok h165 hv227 hv93
              with_unfolding_all refine TY_call hM229 rfl en16 hc232 ?_
              intro v233 s237 hv234 hX235 hM236
              have hO238 := hO231.ext_call hX235
              obtain rfl := hv234
              with_unfolding_all refine TX_pick_t rfl hc224 rfl ?_
              obtain rfl := some_s h167
              with_unfolding_all refine TX_assign rfl ?_
              with_unfolding_all refine TX_nil ?_
              with_unfolding_all refine thenQ_normal ?_
              with_unfolding_all refine TE_ret ?_
              obtain rfl := some_s hF
              exact done_any (vs := [.bool (x164)]) (.inr rfl) rfl (resR_tmp rfl resR_nil) ⟨rfl, hO238.ext⟩
            · skip
              replace h167 := ite_f hc224 h167
              obtain rfl := some_s h167
              with_unfolding_all refine TX_guard_no_t rfl rfl hc224 ?_
              with_unfolding_all refine TX_guard_no_t rfl rfl hc224 ?_
              with_unfolding_all refine TX_guard_no_t rfl rfl hc224 ?_
              with_unfolding_all refine TX_guard_no_t rfl rfl hc224 ?_
              with_unfolding_all refine TX_guard_no_t rfl rfl hc224 ?_
              with_unfolding_all refine TX_pick_f rfl hc224 rfl ?_
              with_unfolding_all refine TX_assign rfl ?_
              with_unfolding_all refine TX_nil ?_
              with_unfolding_all refine thenQ_normal ?_
              with_unfolding_all refine TE_ret ?_
              obtain rfl := some_s hF
              exact done_any (vs := [.bool (false)]) (.inr rfl) rfl (resR_tmp rfl resR_nil) ⟨rfl, hO223.ext⟩
          · skip
            replace h161 := ite_f hc196 h161
            obtain rfl := some_s h161
            with_unfolding_all refine TX_guard_no_t rfl rfl hc196 ?_
            with_unfolding_all refine TX_guard_no_t rfl rfl hc196 ?_
            with_unfolding_all refine TX_guard_no_t rfl rfl hc196 ?_
            with_unfolding_all refine TX_guard_no_t rfl rfl hc196 ?_
            with_unfolding_all refine TX_guard_no_t rfl rfl hc196 ?_
            with_unfolding_all refine TX_guard_no_t rfl rfl hc196 ?_
            with_unfolding_all refine TX_pick_f rfl hc196 rfl ?_
            with_unfolding_all refine TX_move rfl ?_
            replace h167 := ite_f rfl h167
            obtain rfl := some_s h167
            with_unfolding_all refine TX_guard_no_t rfl rfl rfl ?_
            with_unfolding_all refine TX_guard_no_t rfl rfl rfl ?_
            with_unfolding_all refine TX_guard_no_t rfl rfl rfl ?_
            with_unfolding_all refine TX_guard_no_t rfl rfl rfl ?_
            with_unfolding_all refine TX_guard_no_t rfl rfl rfl ?_
            with_unfolding_all refine TX_guard_no_t rfl rfl rfl ?_
            with_unfolding_all refine TX_pick_f rfl rfl rfl ?_
            with_unfolding_all refine TX_assign rfl ?_
            with_unfolding_all refine TX_nil ?_
            with_unfolding_all refine thenQ_normal ?_
            with_unfolding_all refine TE_ret ?_
            obtain rfl := some_s hF
            exact done_any (vs := [.bool (false)]) (.inr rfl) rfl (resR_tmp rfl resR_nil) ⟨rfl, hO195.ext⟩
        · skip
          try dsimp only at hF
          with_unfolding_all refine blockQ_ret ?_
          with_unfolding_all refine thenQ_ret ?_
          obtain rfl := some_s hF
          exact hdp106
theorem match_Text_First_1_1_ok {x0_ : match_Span} {c0_ : match_Text} {y : Bool} (hF : F.match_Text_First_1_1 x0_ c0_ = some y) {v0_ : AV} {σ : Mem} (h0_ : e_match_Span.rel v0_ x0_) {d0_ : Nat} {w0_ : AV} (k0_ : e_match_Text.rel w0_ c0_) (m0_ : σ[d0_]? = some (.cells w0_.cells)) :
    CallE Try.prog 82 [v0_, .ptr d0_ 0] σ (fun v σ' => eB.rel v y ∧ Ext σ σ') := by
  unfold F.match_Text_First_1_1 at hF
  obtain rfl := h0_
  obtain ⟨u1, u3, rfl, h2, h4⟩ := k0_
  refine CallE_of Try.func82 rfl Try.ntmps82 (by simp) ?_
  have hO0 := Own.start σ
  with_unfolding_all refine TE_seq ?_
  with_unfolding_all refine TE_seqY ?_
  have hM5 := MB_none σ
  with_unfolding_all refine TY_box hO0 hM5 rfl rfl ?_
  rintro id6 s7 (hO8 : Own σ [] s7 [.obj id6 [.int .i64 (x0_.From), .int .i64 (x0_.To), .int .i64 (x0_.Part), .int .i64 (x0_.Weight)]]) hM9
  with_unfolding_all refine TX_assign rfl ?_
  with_unfolding_all refine TX_nil ?_
  with_unfolding_all refine thenQ_normal ?_
  with_unfolding_all refine TE_seq ?_
  with_unfolding_all refine TE_seqY ?_
  have hM10 := MB_none s7
  with_unfolding_all refine TX_fieldAddr_p rfl rfl rfl ?_
  with_unfolding_all refine TX_load_p rfl (MC_none (hO8.obj 0 rfl)) rfl ?_
  with_unfolding_all refine TX_fieldAddr_p rfl rfl rfl ?_
  with_unfolding_all refine TX_load_p rfl (MC_none (hO8.get0 m0_ (List.not_mem_nil))) rfl ?_
  with_unfolding_all refine TX_cmp rfl rfl rfl ?_
  with_unfolding_all refine TX_assign rfl ?_
  with_unfolding_all refine TX_nil ?_
  with_unfolding_all refine thenQ_normal ?_
  with_unfolding_all refine TE_ret ?_
  obtain rfl := some_s hF
  exact done_any (vs := [.bool ((x0_.From == c0_.From))]) (.inr rfl) rfl (resR_tmp rfl resR_nil) ⟨rfl, hO8.ext⟩
end Go.Proofs.Ytihbdelgoapeoaa.K
