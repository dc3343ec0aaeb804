/- Walks. Printed. -/
import Derived.Test.YtihbdelgoapeoaaGW9
namespace Go.Proofs.Ytihbdelgoapeoaa.K
open Go Go.RowKit F
set_option maxRecDepth 100000
set_option maxHeartbeats 4000000
set_option linter.unusedVariables false
set_option linter.unusedSimpArgs false
theorem match_outs_ok {x0_ : match_Match} {x1_ : (match_Span → Option Bool)} {y : match_Match} (hF : F.match_outs x0_ x1_ = some y) {v0_ : AV} {v1_ : AV} {σ : Mem} (h0_ : e_match_Match.rel v0_ x0_) (h1_ : FnOK1 Try.prog v1_ σ e_match_Span.rel eB.rel x1_)  :
    CallE Try.prog 70 [v0_, v1_] σ (fun v σ' => e_match_Match.rel v y ∧ Ext σ σ') := by
  unfold F.match_outs at hF
  obtain ⟨u1, u3, rfl, h2, h4⟩ := h0_
  have h5 := h1_
  obtain ⟨g6, fs7, cs8, rfl, hen9, hcall10⟩ := h1_
  refine CallE_of Try.func70 rfl Try.ntmps70 (by simp) ?_
  have hO0 := Own.start σ
  with_unfolding_all refine TE_seq ?_
  with_unfolding_all refine TE_seqY ?_
  have hM11 := MB_none σ
  with_unfolding_all refine TY_box hO0 hM11 rfl rfl ?_
  rintro id12 s13 (hO14 : Own σ [] s13 [.obj id12 [u1, u3]]) hM15
  with_unfolding_all refine TY_alloc hO14 hM15 rfl rfl ?_
  rintro id16 s17 (hO18 : Own σ [] s17 [.obj id16 [.nils, .nils], .obj id12 [u1, u3]]) hM19
  with_unfolding_all refine TX_nil ?_
  with_unfolding_all refine thenQ_normal ?_
  with_unfolding_all refine TE_seq ?_
  with_unfolding_all refine TE_seqY ?_
  have hM20 := MB_none s17
  with_unfolding_all refine TX_assign rfl ?_
  with_unfolding_all refine TX_nil ?_
  with_unfolding_all refine thenQ_normal ?_
  with_unfolding_all refine TE_seq ?_
  with_unfolding_all refine TE_seq ?_
  with_unfolding_all refine TE_seqY ?_
  have hM21 := MB_none s17
  with_unfolding_all refine TX_fieldAddr_p rfl rfl rfl ?_
  with_unfolding_all refine TX_load_p rfl (MC_none (hO18.obj 1 rfl)) rfl ?_
  with_unfolding_all refine TY_len rfl rfl rfl rfl h4 rfl ?_
  with_unfolding_all refine TX_move rfl ?_
  with_unfolding_all refine TX_nil ?_
  with_unfolding_all refine thenQ_normal ?_
  with_unfolding_all refine TE_block ?_
  obtain ⟨p28, h34, hF⟩ := bind_s hF
  refine TE_iter (f := F.match_outs_s1 x0_ x1_) (s0 := ([], 0)) (a := p28) (fun (q22 : ((List match_Span) × Int)) z => ∃ (u24 : AV) (s26 : Mem), RS e_match_Span u24 q22.1 ∧ Own σ [] s26 [.buf u24, .obj id16 [.nils, .nils], .obj id12 [u1, u3]] ∧ Le z ⟨fr 27 [(1, (.fn (.func g6) fs7 cs8)), (2, .ptr id12 0), (4, .ptr id16 0), (5, u24), (9, u3), (10, .int .i64 ((x0_.Out.length : Int))), (11, .int .i64 (q22.2))], [], s26⟩) (fun (p28 : (List match_Span)) e z => (e = .exit 0 ∧ ∃ (u29 : AV) (s31 : Mem), RS e_match_Span u29 p28 ∧ Own σ [] s31 [.buf u29, .obj id16 [.nils, .nils], .obj id12 [u1, u3]] ∧ Le z ⟨fr 27 [(2, .ptr id12 0), (4, .ptr id16 0), (5, u29)], [], s31⟩)) h34 ?_ ?_ ?_
  · skip
    have hO35 : Own σ [] s17 [.buf .nils, .obj id16 [.nils, .nils], .obj id12 [u1, u3]] := hO18.buf0
    have hO36 : Own σ [] s17 [.obj id12 [u1, u3], .buf .nils, .obj id16 [.nils, .nils]] := hO35.front 2 rfl rfl
    have hO37 : Own σ [] s17 [.obj id16 [.nils, .nils], .obj id12 [u1, u3], .buf .nils] := hO36.front 2 rfl rfl
    have hO38 : Own σ [] s17 [.buf .nils, .obj id16 [.nils, .nils], .obj id12 [u1, u3]] := hO37.front 2 rfl rfl
    exact ⟨.nils, s17, (RS.nil e_match_Span), (hO38.sub 3 rfl), (Le_fr ⟨rfl, ⟨rfl, ⟨rfl, ⟨rfl, ⟨rfl, ⟨rfl, ⟨rfl, trivial⟩⟩⟩⟩⟩⟩⟩)⟩
  · skip
    clear hF
    rintro q22 zq22 r23 ⟨u24, s26, h25, hO27, hz39⟩ hF
    unfold F.match_outs_s1 at hF
    refine TE_pre hz39 ?_
    with_unfolding_all refine TE_seq ?_
    with_unfolding_all refine TE_seqY ?_
    have hM40 := MB_none s26
    with_unfolding_all refine TX_cmp rfl rfl rfl ?_
    with_unfolding_all refine TX_nil ?_
    with_unfolding_all refine thenQ_normal ?_
    with_unfolding_all refine TE_seq ?_
    with_unfolding_all refine TE_cond rfl (fun hc41 => ?_) (fun hc41 => ?_)
    · skip
      replace hF := ite_t hc41 hF
      with_unfolding_all refine TE_skip ?_
      with_unfolding_all refine thenQ_normal ?_
      with_unfolding_all refine TE_seq ?_
      with_unfolding_all refine TE_block ?_
      with_unfolding_all refine TE_seq ?_
      obtain ⟨x42, h43, hF⟩ := bind_s hF
      with_unfolding_all refine TE_seqY ?_
      have hM44 := MB_none s26
      with_unfolding_all refine TY_idx (E := e_match_Span) rfl rfl rfl h4 rfl h43 ?_
      intro u45 h46
      obtain rfl := h46
      with_unfolding_all refine TX_load_c rfl rfl ?_
      with_unfolding_all refine TY_alloc hO27 hM44 rfl rfl ?_
      rintro id47 s48 (hO49 : Own σ [] s48 [.obj id47 [.int .i64 (0), .int .i64 (0), .int .i64 (0), .int .i64 (0)], .buf u24, .obj id16 [.nils, .nils], .obj id12 [u1, u3]]) hM50
      with_unfolding_all refine TY_store (v := .agg [.int .i64 (x42.From), .int .i64 (x42.To), .int .i64 (x42.Part), .int .i64 (x42.Weight)]) (vc := [.int .i64 (x42.From), .int .i64 (x42.To), .int .i64 (x42.Part), .int .i64 (x42.Weight)]) hO49 hM50 (MNe.none _) rfl rfl rfl rfl (by with_unfolding_all exact Nat.le_of_ble_eq_true rfl) (ones_cons rfl (ones_cons rfl (ones_cons rfl (ones_cons rfl ones_nil)))) rfl ?_
      rintro s51 (hO52 : Own σ [] s51 [.obj id47 [.int .i64 (x42.From), .int .i64 (x42.To), .int .i64 (x42.Part), .int .i64 (x42.Weight)], .buf u24, .obj id16 [.nils, .nils], .obj id12 [u1, u3]]) hM53
      with_unfolding_all refine TX_nil ?_
      with_unfolding_all refine thenQ_normal ?_
      with_unfolding_all refine TE_seq ?_
      obtain ⟨x54, h55, hF⟩ := bind_s hF
      with_unfolding_all refine TE_seqY ?_
      have hM56 := MB_none s51
      with_unfolding_all refine TX_move rfl ?_
      with_unfolding_all refine TX_load_p rfl (MC_none (hO52.obj 0 rfl)) rfl ?_
      have hc57 : CallE Try.prog g6 (fs7 ++ [.agg [.int .i64 (x42.From), .int .i64 (x42.To), .int .i64 (x42.Part), .int .i64 (x42.Weight)]] ++ cs8) s51 _ := hcall10 _ hO52.ext _ _ _ rfl h55
      with_unfolding_all refine TY_call hM56 rfl hen9 hc57 ?_
      intro v58 s62 hv59 hX60 hM61
      have hO63 := hO52.ext_call hX60
      obtain rfl := hv59
      with_unfolding_all refine TX_nil ?_
      with_unfolding_all refine thenQ_normal ?_
      with_unfolding_all refine TE_cond rfl (fun hc64 => ?_) (fun hc64 => ?_)
      · skip
        replace hF := ite_t hc64 hF
        obtain ⟨x65, h66, hF⟩ := bind_s hF
        with_unfolding_all refine TE_seqY ?_
        have hM67 := MB_none s62
        with_unfolding_all refine TX_move rfl ?_
        with_unfolding_all refine TX_load_p rfl (MC_none (hO63.obj 0 rfl)) rfl ?_
        have h68 : All2 e_match_Span.rel ([.agg [.int .i64 (x42.From), .int .i64 (x42.To), .int .i64 (x42.Part), .int .i64 (x42.Weight)]] : List AV) ([x42] : (List match_Span)) := ⟨rfl, trivial⟩
        with_unfolding_all refine TY_buildSlice rfl rfl rfl rfl rfl h68 rfl (by decide) (by with_unfolding_all exact Nat.le_of_ble_eq_true rfl) ?_
        have h69 : RS e_match_Span (.sl [.agg [.int .i64 (x42.From), .int .i64 (x42.To), .int .i64 (x42.Part), .int .i64 (x42.Weight)]] .full) ([x42] : (List match_Span)) := RS.of h68
        have hO70 : Own σ [] s62 [.buf u24, .obj id47 [.int .i64 (x42.From), .int .i64 (x42.To), .int .i64 (x42.Part), .int .i64 (x42.Weight)], .obj id16 [.nils, .nils], .obj id12 [u1, u3]] := hO63.front 1 rfl rfl
        with_unfolding_all refine TY_append appT25_25 hO70 hM67 rfl rfl rfl rfl h25 rfl h69 h66 ?_
        rintro u71 s73 (h72 : RS e_match_Span u71 x65) (hO74 : Own σ [] s73 [.buf u71, .obj id47 [.int .i64 (x42.From), .int .i64 (x42.To), .int .i64 (x42.Part), .int .i64 (x42.Weight)], .obj id16 [.nils, .nils], .obj id12 [u1, u3]]) hM75
        with_unfolding_all refine TX_assign rfl ?_
        with_unfolding_all refine TX_nil ?_
        with_unfolding_all refine blockQ_normal ?_
        with_unfolding_all refine thenQ_normal ?_
        with_unfolding_all refine TE_seqY ?_
        have hM76 := MB_none s73
        with_unfolding_all refine TX_ari rfl rfl rfl ?_
        with_unfolding_all refine TX_move rfl ?_
        with_unfolding_all refine TX_nil ?_
        obtain rfl := some_s hF
        have hO77 : Own σ [] s73 [.obj id12 [u1, u3], .buf u71, .obj id47 [.int .i64 (x42.From), .int .i64 (x42.To), .int .i64 (x42.Part), .int .i64 (x42.Weight)], .obj id16 [.nils, .nils]] := hO74.front 3 rfl rfl
        have hO78 : Own σ [] s73 [.obj id16 [.nils, .nils], .obj id12 [u1, u3], .buf u71, .obj id47 [.int .i64 (x42.From), .int .i64 (x42.To), .int .i64 (x42.Part), .int .i64 (x42.Weight)]] := hO77.front 3 rfl rfl
        have hO79 : Own σ [] s73 [.buf u71, .obj id16 [.nils, .nils], .obj id12 [u1, u3], .obj id47 [.int .i64 (x42.From), .int .i64 (x42.To), .int .i64 (x42.Part), .int .i64 (x42.Weight)]] := hO78.front 2 rfl rfl
        exact iterQ_again ⟨u71, s73, h72, (hO79.sub 3 rfl), (Le_fr ⟨rfl, ⟨rfl, ⟨rfl, ⟨rfl, ⟨rfl, ⟨rfl, ⟨rfl, trivial⟩⟩⟩⟩⟩⟩⟩)⟩
      · skip
        replace hF := ite_f hc64 hF
        with_unfolding_all refine TE_skip ?_
        with_unfolding_all refine blockQ_normal ?_
        with_unfolding_all refine thenQ_normal ?_
        with_unfolding_all refine TE_seqY ?_
        have hM80 := MB_none s62
        with_unfolding_all refine TX_ari rfl rfl rfl ?_
        with_unfolding_all refine TX_move rfl ?_
        with_unfolding_all refine TX_nil ?_
        obtain rfl := some_s hF
        have hO81 : Own σ [] s62 [.obj id12 [u1, u3], .obj id47 [.int .i64 (x42.From), .int .i64 (x42.To), .int .i64 (x42.Part), .int .i64 (x42.Weight)], .buf u24, .obj id16 [.nils, .nils]] := hO63.front 3 rfl rfl
        have hO82 : Own σ [] s62 [.obj id16 [.nils, .nils], .obj id12 [u1, u3], .obj id47 [.int .i64 (x42.From), .int .i64 (x42.To), .int .i64 (x42.Part), .int .i64 (x42.Weight)], .buf u24] := hO81.front 3 rfl rfl
        have hO83 : Own σ [] s62 [.buf u24, .obj id16 [.nils, .nils], .obj id12 [u1, u3], .obj id47 [.int .i64 (x42.From), .int .i64 (x42.To), .int .i64 (x42.Part), .int .i64 (x42.Weight)]] := hO82.front 3 rfl rfl
        exact iterQ_again ⟨u24, s62, h25, (hO83.sub 3 rfl), (Le_fr ⟨rfl, ⟨rfl, ⟨rfl, ⟨rfl, ⟨rfl, ⟨rfl, ⟨rfl, trivial⟩⟩⟩⟩⟩⟩⟩)⟩
    · skip
      replace hF := ite_f hc41 hF
      with_unfolding_all refine TE_exit ?_
      with_unfolding_all refine thenQ_exit ?_
      obtain rfl := some_s hF
      have hO84 : Own σ [] s26 [.obj id12 [u1, u3], .buf u24, .obj id16 [.nils, .nils]] := hO27.front 2 rfl rfl
      have hO85 : Own σ [] s26 [.obj id16 [.nils, .nils], .obj id12 [u1, u3], .buf u24] := hO84.front 2 rfl rfl
      have hO86 : Own σ [] s26 [.buf u24, .obj id16 [.nils, .nils], .obj id12 [u1, u3]] := hO85.front 2 rfl rfl
      exact iterQ_exit (⟨rfl, u24, s26, h25, (hO86.sub 3 rfl), (Le_fr ⟨rfl, ⟨rfl, ⟨rfl, trivial⟩⟩⟩)⟩)
  · skip
    rintro eq22 zq22 (⟨rfl, u29, s31, h30, hO32, hz87⟩)
    with_unfolding_all refine blockQ_out ?_
    with_unfolding_all refine thenQ_normal ?_
    refine TE_pre hz87 ?_
    with_unfolding_all refine TE_seq ?_
    with_unfolding_all refine TE_seqY ?_
    have hM88 := MB_none s31
    with_unfolding_all refine TX_fieldAddr_p rfl rfl rfl ?_
    with_unfolding_all refine TX_load_p rfl (MC_none (hO32.obj 2 rfl)) rfl ?_
    with_unfolding_all refine TX_move rfl ?_
    with_unfolding_all refine TY_build [u1, u29] rfl rfl rfl (by with_unfolding_all exact Fill.cons rfl (RS.cells h2) rfl (by with_unfolding_all exact Nat.le_of_ble_eq_true rfl) (Fill.cons rfl (RS.cells h30) rfl (by with_unfolding_all exact Nat.le_of_ble_eq_true rfl) (Fill.nil _))) (by with_unfolding_all rfl) ?_
    have hO89 : Own σ [] s31 [.obj id16 [.nils, .nils], .buf u29, .obj id12 [u1, u3]] := hO32.front 1 rfl rfl
    with_unfolding_all refine TY_store (v := .agg [u1, u29]) (vc := [u1, u29]) hO89 hM88 (MNe.none _) rfl rfl rfl rfl (by with_unfolding_all exact Nat.le_of_ble_eq_true rfl) (ones_cons (RS.one1 h2) (ones_cons (RS.one1 h30) ones_nil)) rfl ?_
    rintro s90 (hO91 : Own σ [] s90 [.obj id16 [u1, u29], .buf u29, .obj id12 [u1, u3]]) hM92
    with_unfolding_all refine TX_nil ?_
    with_unfolding_all refine thenQ_normal ?_
    with_unfolding_all refine TE_ret ?_
    obtain rfl := some_s hF
    exact done_any (vs := [.agg [u1, u29]]) (.inr rfl) rfl (resR_cell rfl (hO91.obj 0 rfl) rfl resR_nil) ⟨⟨u1, u29, rfl, h2, h30⟩, hO91.ext⟩
theorem match_Ordered_1_2_ok {x0_ : match_Span} {c0_ : (match_Span → Option Bool)} {y : Bool} (hF : F.match_Ordered_1_2 x0_ c0_ = some y) {v0_ : AV} {σ : Mem} (h0_ : e_match_Span.rel v0_ x0_) {d0_ : Nat} {w0_ : AV} (k0_ : FnOK1 Try.prog w0_ σ e_match_Span.rel eB.rel c0_) (m0_ : σ[d0_]? = some (.cells w0_.cells)) :
    CallE Try.prog 71 [v0_, .ptr d0_ 0] σ (fun v σ' => eB.rel v y ∧ Ext σ σ') := by
  unfold F.match_Ordered_1_2 at hF
  obtain rfl := h0_
  have h1 := k0_
  obtain ⟨g2, fs3, cs4, rfl, hen5, hcall6⟩ := k0_
  refine CallE_of Try.func71 rfl Try.ntmps71 (by simp) ?_
  have hO0 := Own.start σ
  with_unfolding_all refine TE_seq ?_
  with_unfolding_all refine TE_seqY ?_
  have hM7 := MB_none σ
  with_unfolding_all refine TY_box hO0 hM7 rfl rfl ?_
  rintro id8 s9 (hO10 : Own σ [] s9 [.obj id8 [.int .i64 (x0_.From), .int .i64 (x0_.To), .int .i64 (x0_.Part), .int .i64 (x0_.Weight)]]) hM11
  with_unfolding_all refine TX_assign rfl ?_
  with_unfolding_all refine TX_nil ?_
  with_unfolding_all refine thenQ_normal ?_
  with_unfolding_all refine TE_seq ?_
  obtain ⟨x12, h13, hF⟩ := bind_s hF
  with_unfolding_all refine TE_seqY ?_
  have hM14 := MB_none s9
  with_unfolding_all refine TX_load_p rfl (MC_none (hO10.get0 m0_ (List.not_mem_nil))) rfl ?_
  with_unfolding_all refine TX_load_p rfl (MC_none (hO10.obj 0 rfl)) rfl ?_
  have hc15 : CallE Try.prog g2 (fs3 ++ [.agg [.int .i64 (x0_.From), .int .i64 (x0_.To), .int .i64 (x0_.Part), .int .i64 (x0_.Weight)]] ++ cs4) s9 _ := hcall6 _ hO10.ext _ _ _ rfl h13
  with_unfolding_all refine TY_call hM14 rfl hen5 hc15 ?_
  intro v16 s20 hv17 hX18 hM19
  have hO21 := hO10.ext_call hX18
  obtain rfl := hv17
  with_unfolding_all refine TX_not rfl ?_
  with_unfolding_all refine TX_assign rfl ?_
  with_unfolding_all refine TX_nil ?_
  with_unfolding_all refine thenQ_normal ?_
  with_unfolding_all refine TE_ret ?_
  obtain rfl := some_s hF
  exact done_any (vs := [.bool ((!x12))]) (.inr rfl) rfl (resR_tmp rfl resR_nil) ⟨rfl, hO21.ext⟩
theorem match_Ordered_1_ok {x0_ : match_Match} {y : (match_Match × Bool)} (hF : F.match_Ordered_1 x0_ = some y) {v0_ : AV} {σ : Mem} (h0_ : e_match_Match.rel v0_ x0_)  :
    CallE Try.prog 66 [v0_] σ (fun v σ' => (R2 e_match_Match.rel eB.rel) v y ∧ Ext σ σ') := by
  unfold F.match_Ordered_1 at hF
  obtain ⟨u1, u3, rfl, h2, h4⟩ := h0_
  refine CallE_of Try.func66 rfl Try.ntmps66 (by simp) ?_
  have hO0 := Own.start σ
  with_unfolding_all refine TE_seq ?_
  with_unfolding_all refine TE_seqY ?_
  have hM5 := MB_none σ
  with_unfolding_all refine TY_box hO0 hM5 rfl rfl ?_
  rintro id6 s7 (hO8 : Own σ [] s7 [.obj id6 [u1, u3]]) hM9
  with_unfolding_all refine TY_alloc hO8 hM9 rfl rfl ?_
  rintro id10 s11 (hO12 : Own σ [] s11 [.obj id10 [.nils, .nils], .obj id6 [u1, u3]]) hM13
  with_unfolding_all refine TX_assign rfl ?_
  with_unfolding_all refine TX_nil ?_
  with_unfolding_all refine thenQ_normal ?_
  with_unfolding_all refine TE_seq ?_
  with_unfolding_all refine TE_seqY ?_
  have hM14 := MB_none s11
  with_unfolding_all refine TX_makeFunc rfl rfl ?_
  with_unfolding_all refine TY_alloc hO12 hM14 rfl rfl ?_
  rintro id15 s16 (hO17 : Own σ [] s16 [.obj id15 [.nilf], .obj id10 [.nils, .nils], .obj id6 [u1, u3]]) hM18
  with_unfolding_all refine TY_store (v := .fn (.func 67) [] [.ptr id6 0]) (vc := [.fn (.func 67) [] [.ptr id6 0]]) hO17 hM18 (MNe.none _) rfl rfl rfl rfl (by with_unfolding_all exact Nat.le_of_ble_eq_true rfl) (ones_cons rfl ones_nil) rfl ?_
  rintro s19 (hO20 : Own σ [] s19 [.obj id15 [.fn (.func 67) [] [.ptr id6 0]], .obj id10 [.nils, .nils], .obj id6 [u1, u3]]) hM21
  with_unfolding_all refine TX_nil ?_
  with_unfolding_all refine thenQ_normal ?_
  with_unfolding_all refine TE_seq ?_
  obtain ⟨x22, h23, hF⟩ := bind_s hF
  obtain ⟨x24, h25, hF⟩ := bind_s hF
  have hB26 : Bs [(id6, [u1, u3]), (id15, [.fn (.func 67) [] [.ptr id6 0]])] s19 := Bs.cons (hO20.obj 2 rfl) (Bs.cons (hO20.obj 0 rfl) (Bs.nil _))
  with_unfolding_all refine TE_drawY [(id6, [u1, u3]), (id15, [.fn (.func 67) [] [.ptr id6 0]])] (by with_unfolding_all rfl) (by kernel_rfl) hB26 ?_
  have hM27 := MB_some hB26
  with_unfolding_all refine TX_load_p rfl (MC_some 0 rfl) rfl ?_
  with_unfolding_all refine TX_load_p rfl (MC_some 1 rfl) rfl ?_
  have hc34 : CallE Try.prog 70 [.agg [u1, u3], .fn (.func 67) [] [.ptr id6 0]] s19 _ := match_outs_ok h23 ⟨u1, u3, rfl, h2, h4⟩ ⟨67, [], [.ptr id6 0], rfl, en67, fun _ hX28 v29 x30 y32 h31 hy33 => match_Ordered_1_1_ok hy33 h31 ⟨u1, u3, rfl, h2, h4⟩ (hX28.get (hO20.obj 2 rfl))⟩
  with_unfolding_all refine TY_call hM27 rfl en70 hc34 ?_
  intro v35 s39 hv36 hX37 hM38
  have hO40 := hO20.ext_call hX37
  obtain ⟨u41, u43, rfl, h42, h44⟩ := hv36
  with_unfolding_all refine TX_fieldAddr_p rfl rfl rfl ?_
  with_unfolding_all refine TX_load_p rfl (MC_some 0 rfl) rfl ?_
  with_unfolding_all refine TX_makeFunc rfl rfl ?_
  have hc57 : CallE Try.prog 57 [u1, .fn (.func 71) [] [.ptr id15 0]] s39 _ := slices_ContainsFunc_match_Span_match_Span_ok h25 h2 ⟨71, [], [.ptr id15 0], rfl, en71, fun _ hX45 v52 x53 y55 h54 hy56 => match_Ordered_1_2_ok hy56 h54 ⟨67, [], [.ptr id6 0], rfl, en67, fun _ hX46 v47 x48 y50 h49 hy51 => match_Ordered_1_1_ok hy51 h49 ⟨u1, u3, rfl, h2, h4⟩ ((hX45.trans hX46).get (hO40.obj 2 rfl))⟩ (hX45.get (hO40.obj 0 rfl))⟩
  with_unfolding_all refine TY_call hM38 rfl en57 hc57 ?_
  intro v58 s62 hv59 hX60 hM61
  have hO63 := hO40.ext_call hX60
  obtain rfl := hv59
  with_unfolding_all refine TX_not rfl ?_
  have hO64 : Own σ [] s62 [.obj id10 [.nils, .nils], .obj id15 [.fn (.func 67) [] [.ptr id6 0]], .obj id6 [u1, u3]] := hO63.front 1 rfl rfl
  with_unfolding_all refine TY_store (v := .agg [u41, u43]) (vc := [u41, u43]) hO64 hM61 (MNe.cons (hO64.ne 2 0 rfl rfl (by decide)) (MNe.cons (hO64.ne 1 0 rfl rfl (by decide)) (MNe.nil _))) rfl rfl rfl rfl (by with_unfolding_all exact Nat.le_of_ble_eq_true rfl) (ones_cons (RS.one1 h42) (ones_cons (RS.one1 h44) ones_nil)) rfl ?_
  rintro s65 (hO66 : Own σ [] s65 [.obj id10 [u41, u43], .obj id15 [.fn (.func 67) [] [.ptr id6 0]], .obj id6 [u1, u3]]) hM67
  with_unfolding_all refine TX_assign rfl ?_
  with_unfolding_all refine TX_nil ?_
  with_unfolding_all refine thenQ_normal ?_
  with_unfolding_all refine TE_ret ?_
  obtain rfl := some_s hF
  exact done_any (vs := [.agg [u41, u43], .bool ((!x24))]) (.inr rfl) rfl (resR_cell rfl (hO66.obj 0 rfl) rfl (resR_tmp rfl resR_nil)) ⟨⟨_, _, rfl, ⟨u41, u43, rfl, h42, h44⟩, rfl⟩, hO66.ext⟩
theorem match_Ordered_ok {x0_ : (List match_Match)} {y : (List match_Match)} (hF : F.match_Ordered x0_ = some y) {v0_ : AV} {σ : Mem} (h0_ : (RS e_match_Match) v0_ x0_)  :
    CallE Try.prog 31 [v0_] σ (fun v σ' => (RS e_match_Match) v y ∧ Ext σ σ') := by
  unfold F.match_Ordered at hF
  refine CallE_of Try.func31 rfl Try.ntmps31 (by simp) ?_
  have hO0 := Own.start σ
  with_unfolding_all refine TE_seq ?_
  with_unfolding_all refine TE_seqY ?_
  have hM1 := MB_none σ
  with_unfolding_all refine TX_assign rfl ?_
  with_unfolding_all refine TX_nil ?_
  with_unfolding_all refine thenQ_normal ?_
  with_unfolding_all refine TE_seq ?_
  obtain ⟨x2, h3, hF⟩ := bind_s hF
  with_unfolding_all refine TE_seqY ?_
  have hM4 := MB_none σ
  with_unfolding_all refine TX_move rfl ?_
  have hc11 : CallE Try.prog 59 [v0_, .fn (.func 66) [] []] σ _ := match_keep_ok h3 h0_ ⟨66, [], [], rfl, en66, fun _ hX5 v6 x7 y9 h8 hy10 => match_Ordered_1_ok hy10 h8 ⟩
  with_unfolding_all refine TY_call hM4 rfl en59 hc11 ?_
  intro v12 s16 hv13 hX14 hM15
  have hO17 := hO0.ext_call hX14
  with_unfolding_all refine TX_assign rfl ?_
  with_unfolding_all refine TX_nil ?_
  with_unfolding_all refine thenQ_normal ?_
  with_unfolding_all refine TE_ret ?_
  obtain rfl := some_s hF
  exact done_any (vs := [v12]) (.inr rfl) rfl (resR_tmp rfl resR_nil) ⟨hv13, hO17.ext⟩
theorem law12_MatchOrders_ok {x0_ : (List match_Match)} {y : Bool} (hF : F.law12_MatchOrders x0_ = some y) {v0_ : AV} {σ : Mem} (h0_ : (RS e_match_Match) v0_ x0_)  :
    CallE Try.prog 6 [v0_] σ (fun v σ' => eB.rel v y ∧ Ext σ σ') := by
  unfold F.law12_MatchOrders at hF
  refine CallE_of Try.func6 rfl Try.ntmps6 (by simp) ?_
  have hO0 := Own.start σ
  with_unfolding_all refine TE_seq ?_
  with_unfolding_all refine TE_seqY ?_
  have hM1 := MB_none σ
  with_unfolding_all refine TX_assign rfl ?_
  with_unfolding_all refine TX_nil ?_
  with_unfolding_all refine thenQ_normal ?_
  with_unfolding_all refine TE_seq ?_
  with_unfolding_all refine TE_seq ?_
  obtain ⟨x2, h3, hF⟩ := bind_s hF
  with_unfolding_all refine TE_seqY ?_
  have hM4 := MB_none σ
  have hc5 : CallE Try.prog 14 [] σ _ := law12_head_ok h3 
  with_unfolding_all refine TY_call hM4 rfl en14 hc5 ?_
  intro v6 s10 hv7 hX8 hM9
  have hO11 := hO0.ext_call hX8
  obtain rfl := hv7
  with_unfolding_all refine TX_not rfl ?_
  with_unfolding_all refine TX_nil ?_
  with_unfolding_all refine thenQ_normal ?_
  with_unfolding_all refine TE_cond rfl (fun hc12 => ?_) (fun hc12 => ?_)
  · skip
    replace hF := ite_t hc12 hF
    with_unfolding_all refine TE_seq ?_
    with_unfolding_all refine TE_seqY ?_
    have hM13 := MB_none s10
    with_unfolding_all refine TX_assign rfl ?_
    with_unfolding_all refine TX_nil ?_
    with_unfolding_all refine thenQ_normal ?_
    with_unfolding_all refine TE_ret ?_
    with_unfolding_all refine thenQ_ret ?_
    obtain rfl := some_s hF
    exact done_any (vs := [.bool (false)]) (.inr rfl) rfl (resR_tmp rfl resR_nil) ⟨rfl, hO11.ext⟩
  · skip
    replace hF := ite_f hc12 hF
    with_unfolding_all refine TE_skip ?_
    with_unfolding_all refine thenQ_normal ?_
    with_unfolding_all refine TE_seq ?_
    with_unfolding_all refine TE_seq ?_
    obtain ⟨x14, h15, hF⟩ := bind_s hF
    with_unfolding_all refine TE_seqY ?_
    have hM16 := MB_none s10
    with_unfolding_all refine TX_move rfl ?_
    have hc17 : CallE Try.prog 15 [v0_, .int .i64 (30)] s10 _ := law12_Good_ok h15 h0_ rfl
    with_unfolding_all refine TY_call hM16 rfl en15 hc17 ?_
    intro v18 s22 hv19 hX20 hM21
    have hO23 := hO11.ext_call hX20
    obtain rfl := hv19
    with_unfolding_all refine TX_not rfl ?_
    with_unfolding_all refine TX_nil ?_
    with_unfolding_all refine thenQ_normal ?_
    with_unfolding_all refine TE_cond rfl (fun hc24 => ?_) (fun hc24 => ?_)
    · skip
      replace hF := ite_t hc24 hF
      with_unfolding_all refine TE_seq ?_
      with_unfolding_all refine TE_seqY ?_
      have hM25 := MB_none s22
      with_unfolding_all refine TX_assign rfl ?_
      with_unfolding_all refine TX_nil ?_
      with_unfolding_all refine thenQ_normal ?_
      with_unfolding_all refine TE_ret ?_
      with_unfolding_all refine thenQ_ret ?_
      obtain rfl := some_s hF
      exact done_any (vs := [.bool (true)]) (.inr rfl) rfl (resR_tmp rfl resR_nil) ⟨rfl, hO23.ext⟩
    · skip
      replace hF := ite_f hc24 hF
      with_unfolding_all refine TE_skip ?_
      with_unfolding_all refine thenQ_normal ?_
      with_unfolding_all refine TE_seq ?_
      with_unfolding_all refine TE_seqY ?_
      have hM26 := MB_none s22
      with_unfolding_all refine TY_alloc hO23 hM26 rfl rfl ?_
      rintro id27 s28 (hO29 : Own σ [] s28 [.obj id27 [.nilf]]) hM30
      with_unfolding_all refine TY_store (v := .fn (.func 27) [] []) (vc := [.fn (.func 27) [] []]) hO29 hM30 (MNe.none _) rfl rfl rfl rfl (by with_unfolding_all exact Nat.le_of_ble_eq_true rfl) (ones_cons rfl ones_nil) rfl ?_
      rintro s31 (hO32 : Own σ [] s31 [.obj id27 [.fn (.func 27) [] []]]) hM33
      with_unfolding_all refine TX_nil ?_
      with_unfolding_all refine thenQ_normal ?_
      with_unfolding_all refine TE_seq ?_
      with_unfolding_all refine TE_seqY ?_
      have hM34 := MB_none s31
      with_unfolding_all refine TX_makeFunc rfl rfl ?_
      with_unfolding_all refine TY_alloc hO32 hM34 rfl rfl ?_
      rintro id35 s36 (hO37 : Own σ [] s36 [.obj id35 [.nilf], .obj id27 [.fn (.func 27) [] []]]) hM38
      with_unfolding_all refine TY_store (v := .fn (.func 28) [] [.ptr id27 0]) (vc := [.fn (.func 28) [] [.ptr id27 0]]) hO37 hM38 (MNe.none _) rfl rfl rfl rfl (by with_unfolding_all exact Nat.le_of_ble_eq_true rfl) (ones_cons rfl ones_nil) rfl ?_
      rintro s39 (hO40 : Own σ [] s39 [.obj id35 [.fn (.func 28) [] [.ptr id27 0]], .obj id27 [.fn (.func 27) [] []]]) hM41
      with_unfolding_all refine TX_nil ?_
      with_unfolding_all refine thenQ_normal ?_
      with_unfolding_all refine TE_seq ?_
      obtain ⟨x42, h43, hF⟩ := bind_s hF
      with_unfolding_all refine TE_seqY ?_
      have hM44 := MB_none s39
      with_unfolding_all refine TX_move rfl ?_
      with_unfolding_all refine TX_makeFunc rfl rfl ?_
      with_unfolding_all refine TX_load_p rfl (MC_none (hO40.obj 0 rfl)) rfl ?_
      have hc87 : CallE Try.prog 29 [v0_, .fn (.func 30) [] [.ptr id35 0], .fn (.func 28) [] [.ptr id27 0]] s39 _ := law12_filter_ok h43 h0_ ⟨30, [], [.ptr id35 0], rfl, en30, fun _ hX45 v64 x65 y67 h66 hy68 => law12_MatchOrders_3_ok hy68 h66 ⟨28, [], [.ptr id27 0], rfl, en28, fun _ hX46 v56 x57 v59 x60 y62 h58 h61 hy63 => law12_MatchOrders_2_ok hy63 h58 h61 ⟨27, [], [], rfl, en27, fun _ hX47 v48 x49 v51 x52 y54 h50 h53 hy55 => law12_MatchOrders_1_ok hy55 h50 h53 ⟩ ((hX45.trans hX46).get (hO40.obj 1 rfl))⟩ (hX45.get (hO40.obj 0 rfl))⟩ ⟨28, [], [.ptr id27 0], rfl, en28, fun _ hX69 v79 x80 v82 x83 y85 h81 h84 hy86 => law12_MatchOrders_2_ok hy86 h81 h84 ⟨27, [], [], rfl, en27, fun _ hX70 v71 x72 v74 x75 y77 h73 h76 hy78 => law12_MatchOrders_1_ok hy78 h73 h76 ⟩ (hX69.get (hO40.obj 1 rfl))⟩
      with_unfolding_all refine TY_call hM44 rfl en29 hc87 ?_
      intro v88 s92 hv89 hX90 hM91
      have hO93 := hO40.ext_call hX90
      with_unfolding_all refine TX_assign rfl ?_
      with_unfolding_all refine TX_nil ?_
      with_unfolding_all refine thenQ_normal ?_
      with_unfolding_all refine TE_seq ?_
      obtain ⟨x94, h95, hF⟩ := bind_s hF
      obtain ⟨x96, h97, hF⟩ := bind_s hF
      with_unfolding_all refine TE_seqY ?_
      have hM98 := MB_none s92
      with_unfolding_all refine TX_move rfl ?_
      have hc99 : CallE Try.prog 31 [v0_] s92 _ := match_Ordered_ok h95 h0_
      with_unfolding_all refine TY_call hM98 rfl en31 hc99 ?_
      intro v100 s104 hv101 hX102 hM103
      have hO105 := hO93.ext_call hX102
      with_unfolding_all refine TX_move rfl ?_
      have hc106 : CallE Try.prog 16 [v100, v88] s104 _ := law12_Same_ok h97 hv101 hv89
      with_unfolding_all refine TY_call hM103 rfl en16 hc106 ?_
      intro v107 s111 hv108 hX109 hM110
      have hO112 := hO105.ext_call hX109
      obtain rfl := hv108
      with_unfolding_all refine TX_assign rfl ?_
      with_unfolding_all refine TX_nil ?_
      with_unfolding_all refine thenQ_normal ?_
      with_unfolding_all refine TE_ret ?_
      obtain rfl := some_s hF
      exact done_any (vs := [.bool (x96)]) (.inr rfl) rfl (resR_tmp rfl resR_nil) ⟨rfl, hO112.ext⟩
theorem law12_up_ok {x0_ : (List Int)} {y : (List Int)} (hF : F.law12_up x0_ = some y) {v0_ : AV} {σ : Mem} (h0_ : (RS (eI .i64)) v0_ x0_)  :
    CallE Try.prog 34 [v0_] σ (fun v σ' => (RS (eI .i64)) v y ∧ Ext σ σ') := by
  unfold F.law12_up at hF
  refine CallE_of Try.func34 rfl Try.ntmps34 (by simp) ?_
  have hO0 := Own.start σ
  with_unfolding_all refine TE_seq ?_
  with_unfolding_all refine TE_seqY ?_
  have hM1 := MB_none σ
  with_unfolding_all refine TX_assign rfl ?_
  with_unfolding_all refine TX_nil ?_
  with_unfolding_all refine thenQ_normal ?_
  with_unfolding_all refine TE_seq ?_
  with_unfolding_all refine TE_seqY ?_
  have hM2 := MB_none σ
  have h3 : All2 (eI .i64).rel ([] : List AV) ([] : (List Int)) := trivial
  with_unfolding_all refine TY_buildSlice rfl rfl rfl rfl rfl h3 rfl (by decide) (by with_unfolding_all exact Nat.le_of_ble_eq_true rfl) ?_
  have h4 : RS (eI .i64) (.sl [] .full) ([] : (List Int)) := RS.of h3
  with_unfolding_all refine TX_assign rfl ?_
  with_unfolding_all refine TX_nil ?_
  with_unfolding_all refine thenQ_normal ?_
  with_unfolding_all refine TE_seq ?_
  with_unfolding_all refine TE_seqY ?_
  have hM5 := MB_none σ
  with_unfolding_all refine TX_assign rfl ?_
  with_unfolding_all refine TX_nil ?_
  with_unfolding_all refine thenQ_normal ?_
  with_unfolding_all refine TE_seq ?_
  with_unfolding_all refine TE_seq ?_
  with_unfolding_all refine TE_seqY ?_
  have hM6 := MB_none σ
  with_unfolding_all refine TX_assign rfl ?_
  with_unfolding_all refine TX_nil ?_
  with_unfolding_all refine thenQ_normal ?_
  with_unfolding_all refine TE_block ?_
  obtain ⟨p13, h19, hF⟩ := bind_s hF
  refine TE_iter (f := F.law12_up_s1 x0_) (s0 := (([] : (List Int)), 0, 0)) (a := p13) (fun (q7 : ((List Int) × Int × Int)) z => ∃ (u9 : AV) (s11 : Mem), RS (eI .i64) u9 q7.1 ∧ Own σ [] s11 [.buf u9] ∧ Le z ⟨fr 30 [(0, v0_), (3, u9), (4, .int .i64 (q7.2.1)), (5, .int .i64 (q7.2.2))], [], s11⟩) (fun (p13 : (List Int)) e z => (e = .exit 0 ∧ ∃ (u14 : AV) (s16 : Mem), RS (eI .i64) u14 p13 ∧ Own σ [] s16 [.buf u14] ∧ Le z ⟨fr 30 [(3, u14)], [], s16⟩)) h19 ?_ ?_ ?_
  · skip
    have hO20 : Own σ [] σ [.buf (.sl [] .full)] := hO0.bufFull []
    exact ⟨(.sl [] .full), σ, h4, (hO20.sub 1 rfl), (Le_fr ⟨rfl, ⟨rfl, ⟨rfl, ⟨rfl, trivial⟩⟩⟩⟩)⟩
  · skip
    clear hF
    rintro q7 zq7 r8 ⟨u9, s11, h10, hO12, hz21⟩ hF
    unfold F.law12_up_s1 at hF
    refine TE_pre hz21 ?_
    with_unfolding_all refine TE_seq ?_
    with_unfolding_all refine TE_seq ?_
    obtain ⟨r22, h23, hF⟩ := bind_s hF
    refine TE_cutQ (fun z => ∃ (s25 : Mem), Own σ [] s25 [.buf u9] ∧ Le z ⟨fr 30 [(0, v0_), (3, u9), (4, .int .i64 (q7.2.1)), (5, .int .i64 (q7.2.2)), (14, .bool (r22))], [], s25⟩) ?_ ?_
    · skip
      with_unfolding_all refine TE_seqY ?_
      have hM28 := MB_none s11
      with_unfolding_all refine TX_move rfl ?_
      with_unfolding_all refine TX_move rfl ?_
      with_unfolding_all refine TY_len rfl rfl rfl rfl h0_ rfl ?_
      with_unfolding_all refine TX_cmp rfl rfl rfl ?_
      with_unfolding_all refine TX_move rfl ?_
      with_unfolding_all refine TX_guard_t rfl rfl (fun hc29 => ?_) (fun hc29 => ?_)
      · skip
        replace h23 := and_t hc29 h23
        with_unfolding_all refine TX_move rfl ?_
        with_unfolding_all refine TX_guard_yes rfl rfl hc29 ?_
        with_unfolding_all refine TX_cmp rfl rfl rfl ?_
        with_unfolding_all refine TX_pick_t rfl hc29 rfl ?_
        obtain rfl := some_s h23
        with_unfolding_all refine TX_nil ?_
        exact joinQ_normal ⟨s11, (hO12.sub 1 rfl), (Le_fr ⟨rfl, ⟨rfl, ⟨rfl, ⟨rfl, ⟨rfl, trivial⟩⟩⟩⟩⟩)⟩
      · skip
        replace h23 := and_f hc29 h23
        obtain rfl := some_s h23
        with_unfolding_all refine TX_guard_no_t rfl rfl hc29 ?_
        with_unfolding_all refine TX_pick_f rfl hc29 rfl ?_
        with_unfolding_all refine TX_nil ?_
        exact joinQ_normal ⟨s11, (hO12.sub 1 rfl), (Le_fr ⟨rfl, ⟨rfl, ⟨rfl, ⟨rfl, ⟨rfl, trivial⟩⟩⟩⟩⟩)⟩
    · skip
      rintro zj24 ⟨s25, hO26, hz27⟩
      with_unfolding_all refine thenQ_normal ?_
      refine TE_pre hz27 ?_
      with_unfolding_all refine TE_cond rfl (fun hc30 => ?_) (fun hc30 => ?_)
      · skip
        replace hF := ite_t hc30 hF
        with_unfolding_all refine TE_skip ?_
        with_unfolding_all refine thenQ_normal ?_
        with_unfolding_all refine TE_seq ?_
        with_unfolding_all refine TE_block ?_
        with_unfolding_all refine TE_seq ?_
        obtain ⟨x31, h32, hF⟩ := bind_s hF
        with_unfolding_all refine TE_seqY ?_
        have hM33 := MB_none s25
        with_unfolding_all refine TX_move rfl ?_
        with_unfolding_all refine TX_move rfl ?_
        with_unfolding_all refine TX_move rfl ?_
        with_unfolding_all refine TY_idx (E := (eI .i64)) rfl rfl rfl h0_ rfl h32 ?_
        intro u34 h35
        obtain rfl := h35
        with_unfolding_all refine TX_load_c rfl rfl ?_
        with_unfolding_all refine TX_bit rfl rfl rfl ?_
        with_unfolding_all refine TX_ari rfl rfl rfl ?_
        with_unfolding_all refine TX_ari rfl rfl rfl ?_
        with_unfolding_all refine TX_assign rfl ?_
        with_unfolding_all refine TX_nil ?_
        with_unfolding_all refine thenQ_normal ?_
        obtain ⟨x36, h37, hF⟩ := bind_s hF
        with_unfolding_all refine TE_seqY ?_
        have hM38 := MB_none s25
        with_unfolding_all refine TX_move rfl ?_
        with_unfolding_all refine TX_move rfl ?_
        have h39 : All2 (eI .i64).rel ([.int .i64 ((IntKind.wrap .i64 (q7.2.1 + (IntKind.wrap .i64 (1 + (band .i64 x31 15))))))] : List AV) ([(IntKind.wrap .i64 (q7.2.1 + (IntKind.wrap .i64 (1 + (band .i64 x31 15)))))] : (List Int)) := ⟨rfl, trivial⟩
        with_unfolding_all refine TY_buildSlice rfl rfl rfl rfl rfl h39 rfl (by decide) (by with_unfolding_all exact Nat.le_of_ble_eq_true rfl) ?_
        have h40 : RS (eI .i64) (.sl [.int .i64 ((IntKind.wrap .i64 (q7.2.1 + (IntKind.wrap .i64 (1 + (band .i64 x31 15))))))] .full) ([(IntKind.wrap .i64 (q7.2.1 + (IntKind.wrap .i64 (1 + (band .i64 x31 15)))))] : (List Int)) := RS.of h39
        with_unfolding_all refine TY_append appT54_54 hO26 hM38 rfl rfl rfl rfl h10 rfl h40 h37 ?_
        rintro u41 s43 (h42 : RS (eI .i64) u41 x36) (hO44 : Own σ [] s43 [.buf u41]) hM45
        with_unfolding_all refine TX_assign rfl ?_
        with_unfolding_all refine TX_nil ?_
        with_unfolding_all refine blockQ_normal ?_
        with_unfolding_all refine thenQ_normal ?_
        with_unfolding_all refine TE_seqY ?_
        have hM46 := MB_none s43
        with_unfolding_all refine TX_move rfl ?_
        with_unfolding_all refine TX_ari rfl rfl rfl ?_
        with_unfolding_all refine TX_assign rfl ?_
        with_unfolding_all refine TX_nil ?_
        obtain rfl := some_s hF
        exact iterQ_again ⟨u41, s43, h42, (hO44.sub 1 rfl), (Le_fr ⟨rfl, ⟨rfl, ⟨rfl, ⟨rfl, trivial⟩⟩⟩⟩)⟩
      · skip
        replace hF := ite_f hc30 hF
        with_unfolding_all refine TE_exit ?_
        with_unfolding_all refine thenQ_exit ?_
        obtain rfl := some_s hF
        exact iterQ_exit (⟨rfl, u9, s25, h10, (hO26.sub 1 rfl), (Le_fr ⟨rfl, trivial⟩)⟩)
  · skip
    rintro eq7 zq7 (⟨rfl, u14, s16, h15, hO17, hz47⟩)
    with_unfolding_all refine blockQ_out ?_
    with_unfolding_all refine thenQ_normal ?_
    refine TE_pre hz47 ?_
    with_unfolding_all refine TE_seq ?_
    with_unfolding_all refine TE_seqY ?_
    have hM48 := MB_none s16
    with_unfolding_all refine TX_move rfl ?_
    with_unfolding_all refine TX_assign rfl ?_
    with_unfolding_all refine TX_nil ?_
    with_unfolding_all refine thenQ_normal ?_
    with_unfolding_all refine TE_ret ?_
    obtain rfl := some_s hF
    exact done_any (vs := [u14]) (.inr rfl) rfl (resR_tmp rfl resR_nil) ⟨h15, hO17.ext⟩
theorem law12_rank_ok {x0_ : match_Text} {x1_ : Int} {x2_ : Int} {y : Int} (hF : F.law12_rank x0_ x1_ x2_ = some y) {v0_ : AV} {v1_ : AV} {v2_ : AV} {σ : Mem} (h0_ : e_match_Text.rel v0_ x0_) (h1_ : (eI .i64).rel v1_ x1_) (h2_ : (eI .i64).rel v2_ x2_)  :
    CallE Try.prog 36 [v0_, v1_, v2_] σ (fun v σ' => (eI .i64).rel v y ∧ Ext σ σ') := by
  unfold F.law12_rank at hF
  obtain ⟨u1, u3, rfl, h2, h4⟩ := h0_
  obtain rfl := h1_
  obtain rfl := h2_
  refine CallE_of Try.func36 rfl Try.ntmps36 (by simp) ?_
  have hO0 := Own.start σ
  with_unfolding_all refine TE_seq ?_
  with_unfolding_all refine TE_seqY ?_
  have hM5 := MB_none σ
  with_unfolding_all refine TY_box hO0 hM5 rfl rfl ?_
  rintro id6 s7 (hO8 : Own σ [] s7 [.obj id6 [.int .i64 (x0_.From), .int .i64 (x0_.To), u1, u3]]) hM9
  with_unfolding_all refine TX_assign rfl ?_
  with_unfolding_all refine TX_nil ?_
  with_unfolding_all refine thenQ_normal ?_
  with_unfolding_all refine TE_seq ?_
  with_unfolding_all refine TE_seqY ?_
  have hM10 := MB_none s7
  have h11 : All2 (eI .i64).rel ([] : List AV) ([] : (List Int)) := trivial
  with_unfolding_all refine TY_buildSlice rfl rfl rfl rfl rfl h11 rfl (by decide) (by with_unfolding_all exact Nat.le_of_ble_eq_true rfl) ?_
  have h12 : RS (eI .i64) (.sl [] .full) ([] : (List Int)) := RS.of h11
  with_unfolding_all refine TX_assign rfl ?_
  with_unfolding_all refine TX_nil ?_
  with_unfolding_all refine thenQ_normal ?_
  with_unfolding_all refine TE_seq ?_
  with_unfolding_all refine TE_seq ?_
  with_unfolding_all refine TE_seqY ?_
  have hM13 := MB_none s7
  with_unfolding_all refine TX_move rfl ?_
  with_unfolding_all refine TX_nil ?_
  with_unfolding_all refine thenQ_normal ?_
  refine TE_cutQ (fun z => ∃ j14 : (List Int), F.law12_rank_k1 x2_ j14 = some y ∧ ∃ (u15 : AV) (s17 : Mem), RS (eI .i64) u15 j14 ∧ Own σ [] s17 [.obj id6 [.int .i64 (x0_.From), .int .i64 (x0_.To), u1, u3]] ∧ Le z ⟨fr 35 [(2, .int .i64 (x2_)), (7, u15)], [], s17⟩) ?_ ?_
  · skip
    with_unfolding_all refine TE_block ?_
    with_unfolding_all refine TE_seq ?_
    with_unfolding_all refine TE_seqY ?_
    have hM20 := MB_none s7
    with_unfolding_all refine TX_cmp rfl rfl rfl ?_
    with_unfolding_all refine TX_assign rfl ?_
    with_unfolding_all refine TX_nil ?_
    with_unfolding_all refine thenQ_normal ?_
    with_unfolding_all refine TE_cond rfl (fun hc21 => ?_) (fun hc21 => ?_)
    · skip
      replace hF := ite_t hc21 hF
      with_unfolding_all refine TE_seqY ?_
      have hM22 := MB_none s7
      with_unfolding_all refine TX_fieldAddr_p rfl rfl rfl ?_
      with_unfolding_all refine TX_load_p rfl (MC_none (hO8.obj 0 rfl)) rfl ?_
      with_unfolding_all refine TX_assign rfl ?_
      with_unfolding_all refine TX_nil ?_
      with_unfolding_all refine blockQ_normal ?_
      exact joinQ_normal ⟨_, hF, u1, s7, h2, (hO8.sub 1 rfl), (Le_fr ⟨rfl, ⟨rfl, trivial⟩⟩)⟩
    · skip
      replace hF := ite_f hc21 hF
      with_unfolding_all refine TE_seq ?_
      with_unfolding_all refine TE_seqY ?_
      have hM23 := MB_none s7
      with_unfolding_all refine TX_cmp rfl rfl rfl ?_
      with_unfolding_all refine TX_assign rfl ?_
      with_unfolding_all refine TX_nil ?_
      with_unfolding_all refine thenQ_normal ?_
      with_unfolding_all refine TE_cond rfl (fun hc24 => ?_) (fun hc24 => ?_)
      · skip
        replace hF := ite_t hc24 hF
        with_unfolding_all refine TE_seqY ?_
        have hM25 := MB_none s7
        with_unfolding_all refine TX_fieldAddr_p rfl rfl rfl ?_
        with_unfolding_all refine TX_load_p rfl (MC_none (hO8.obj 0 rfl)) rfl ?_
        with_unfolding_all refine TX_assign rfl ?_
        with_unfolding_all refine TX_nil ?_
        with_unfolding_all refine blockQ_normal ?_
        exact joinQ_normal ⟨_, hF, u3, s7, h4, (hO8.sub 1 rfl), (Le_fr ⟨rfl, ⟨rfl, trivial⟩⟩)⟩
      · skip
        replace hF := ite_f hc24 hF
        with_unfolding_all refine TE_seq ?_
        with_unfolding_all refine TE_seqY ?_
        have hM26 := MB_none s7
        with_unfolding_all refine TX_move rfl ?_
        with_unfolding_all refine TX_assign rfl ?_
        with_unfolding_all refine TX_nil ?_
        with_unfolding_all refine thenQ_normal ?_
        with_unfolding_all refine TE_ret ?_
        with_unfolding_all refine blockQ_ret ?_
        with_unfolding_all refine joinQ_ret ?_
        with_unfolding_all refine thenQ_ret ?_
        obtain rfl := some_s hF
        exact done_any (vs := [.int .i64 (x2_)]) (.inr rfl) rfl (resR_tmp rfl resR_nil) ⟨rfl, hO8.ext⟩
  · skip
    clear hF
    rintro zj14 ⟨j14, hF, u15, s17, h16, hO18, hz19⟩
    unfold F.law12_rank_k1 at hF
    with_unfolding_all refine thenQ_normal ?_
    refine TE_pre hz19 ?_
    with_unfolding_all refine TE_seq ?_
    with_unfolding_all refine TE_seqY ?_
    have hM27 := MB_none s17
    with_unfolding_all refine TX_assign rfl ?_
    with_unfolding_all refine TX_nil ?_
    with_unfolding_all refine thenQ_normal ?_
    with_unfolding_all refine TE_seq ?_
    with_unfolding_all refine TE_seq ?_
    with_unfolding_all refine TE_seqY ?_
    have hM28 := MB_none s17
    with_unfolding_all refine TX_move rfl ?_
    with_unfolding_all refine TY_len rfl rfl rfl rfl h16 rfl ?_
    with_unfolding_all refine TX_move rfl ?_
    with_unfolding_all refine TX_nil ?_
    with_unfolding_all refine thenQ_normal ?_
    with_unfolding_all refine TE_block ?_
    obtain ⟨p33, h37, hF⟩ := bind_s hF
    refine TE_iter (f := F.law12_rank_s2 x2_ j14) (s0 := (0, 0)) (a := p33) (fun (q29 : (Int × Int)) z => ∃ (s31 : Mem), Own σ [] s31 [.obj id6 [.int .i64 (x0_.From), .int .i64 (x0_.To), u1, u3]] ∧ Le z ⟨fr 35 [(2, .int .i64 (x2_)), (8, .int .i64 (q29.1)), (22, u15), (23, .int .i64 ((j14.length : Int))), (24, .int .i64 (q29.2))], [], s31⟩) (fun (p33 : Int) e z => (e = .exit 1 ∧ ∃ (s34 : Mem), Own σ [] s34 [.obj id6 [.int .i64 (x0_.From), .int .i64 (x0_.To), u1, u3]] ∧ Le z ⟨fr 35 [(8, .int .i64 (p33))], [], s34⟩)) h37 ?_ ?_ ?_
    · skip
      exact ⟨s17, (hO18.sub 1 rfl), (Le_fr ⟨rfl, ⟨rfl, ⟨rfl, ⟨rfl, ⟨rfl, trivial⟩⟩⟩⟩⟩)⟩
    · skip
      clear hF
      rintro q29 zq29 r30 ⟨s31, hO32, hz38⟩ hF
      unfold F.law12_rank_s2 at hF
      refine TE_pre hz38 ?_
      with_unfolding_all refine TE_seq ?_
      with_unfolding_all refine TE_seqY ?_
      have hM39 := MB_none s31
      with_unfolding_all refine TX_cmp rfl rfl rfl ?_
      with_unfolding_all refine TX_nil ?_
      with_unfolding_all refine thenQ_normal ?_
      with_unfolding_all refine TE_seq ?_
      with_unfolding_all refine TE_cond rfl (fun hc40 => ?_) (fun hc40 => ?_)
      · skip
        replace hF := ite_t hc40 hF
        with_unfolding_all refine TE_skip ?_
        with_unfolding_all refine thenQ_normal ?_
        with_unfolding_all refine TE_seq ?_
        with_unfolding_all refine TE_block ?_
        with_unfolding_all refine TE_seq ?_
        obtain ⟨x41, h42, hF⟩ := bind_s hF
        with_unfolding_all refine TE_seqY ?_
        have hM43 := MB_none s31
        with_unfolding_all refine TY_idx (E := (eI .i64)) rfl rfl rfl h16 rfl h42 ?_
        intro u44 h45
        obtain rfl := h45
        with_unfolding_all refine TX_load_c rfl rfl ?_
        with_unfolding_all refine TX_assign rfl ?_
        with_unfolding_all refine TX_nil ?_
        with_unfolding_all refine thenQ_normal ?_
        with_unfolding_all refine TE_seq ?_
        with_unfolding_all refine TE_seqY ?_
        have hM46 := MB_none s31
        with_unfolding_all refine TX_move rfl ?_
        with_unfolding_all refine TX_move rfl ?_
        with_unfolding_all refine TX_cmp rfl rfl rfl ?_
        with_unfolding_all refine TX_nil ?_
        with_unfolding_all refine thenQ_normal ?_
        with_unfolding_all refine TE_cond rfl (fun hc47 => ?_) (fun hc47 => ?_)
        · skip
          replace hF := ite_t hc47 hF
          with_unfolding_all refine TE_seqY ?_
          have hM48 := MB_none s31
          with_unfolding_all refine TX_move rfl ?_
          with_unfolding_all refine TX_ari rfl rfl rfl ?_
          with_unfolding_all refine TX_assign rfl ?_
          with_unfolding_all refine TX_nil ?_
          with_unfolding_all refine blockQ_normal ?_
          with_unfolding_all refine thenQ_normal ?_
          with_unfolding_all refine TE_seqY ?_
          have hM49 := MB_none s31
          with_unfolding_all refine TX_ari rfl rfl rfl ?_
          with_unfolding_all refine TX_move rfl ?_
          with_unfolding_all refine TX_nil ?_
          obtain rfl := some_s hF
          exact iterQ_again ⟨s31, (hO32.sub 1 rfl), (Le_fr ⟨rfl, ⟨rfl, ⟨rfl, ⟨rfl, ⟨rfl, trivial⟩⟩⟩⟩⟩)⟩
        · skip
          replace hF := ite_f hc47 hF
          with_unfolding_all refine TE_skip ?_
          with_unfolding_all refine blockQ_normal ?_
          with_unfolding_all refine thenQ_normal ?_
          with_unfolding_all refine TE_seqY ?_
          have hM50 := MB_none s31
          with_unfolding_all refine TX_ari rfl rfl rfl ?_
          with_unfolding_all refine TX_move rfl ?_
          with_unfolding_all refine TX_nil ?_
          obtain rfl := some_s hF
          exact iterQ_again ⟨s31, (hO32.sub 1 rfl), (Le_fr ⟨rfl, ⟨rfl, ⟨rfl, ⟨rfl, ⟨rfl, trivial⟩⟩⟩⟩⟩)⟩
      · skip
        replace hF := ite_f hc40 hF
        with_unfolding_all refine TE_exit ?_
        with_unfolding_all refine thenQ_exit ?_
        obtain rfl := some_s hF
        exact iterQ_exit (⟨rfl, s31, (hO32.sub 1 rfl), (Le_fr ⟨rfl, trivial⟩)⟩)
    · skip
      rintro eq29 zq29 (⟨rfl, s34, hO35, hz51⟩)
      with_unfolding_all refine blockQ_out ?_
      with_unfolding_all refine thenQ_normal ?_
      refine TE_pre hz51 ?_
      with_unfolding_all refine TE_seq ?_
      with_unfolding_all refine TE_seqY ?_
      have hM52 := MB_none s34
      with_unfolding_all refine TX_move rfl ?_
      with_unfolding_all refine TX_assign rfl ?_
      with_unfolding_all refine TX_nil ?_
      with_unfolding_all refine thenQ_normal ?_
      with_unfolding_all refine TE_ret ?_
      obtain rfl := some_s hF
      exact done_any (vs := [.int .i64 (p33)]) (.inr rfl) rfl (resR_tmp rfl resR_nil) ⟨rfl, hO35.ext⟩
theorem law12_MatchWindows_1_ok {x0_ : (List match_Span)} {c0_ : match_Text} {c1_ : Int} {y : Int} (hF : F.law12_MatchWindows_1 x0_ c0_ c1_ = some y) {v0_ : AV} {σ : Mem} (h0_ : (RS e_match_Span) v0_ x0_) {d0_ : Nat} {w0_ : AV} (k0_ : e_match_Text.rel w0_ c0_) (m0_ : σ[d0_]? = some (.cells w0_.cells)) {d1_ : Nat} {w1_ : AV} (k1_ : (eI .i64).rel w1_ c1_) (m1_ : σ[d1_]? = some (.cells w1_.cells)) :
    CallE Try.prog 35 [v0_, .ptr d0_ 0, .ptr d1_ 0] σ (fun v σ' => (eI .i64).rel v y ∧ Ext σ σ') := by
  unfold F.law12_MatchWindows_1 at hF
  obtain ⟨u1, u3, rfl, h2, h4⟩ := k0_
  obtain rfl := k1_
  refine CallE_of Try.func35 rfl Try.ntmps35 (by simp) ?_
  have hO0 := Own.start σ
  with_unfolding_all refine TE_seq ?_
  with_unfolding_all refine TE_seqY ?_
  have hM5 := MB_none σ
  with_unfolding_all refine TX_assign rfl ?_
  with_unfolding_all refine TX_nil ?_
  with_unfolding_all refine thenQ_normal ?_
  with_unfolding_all refine TE_seq ?_
  with_unfolding_all refine TE_seq ?_
  with_unfolding_all refine TE_seqY ?_
  have hM6 := MB_none σ
  with_unfolding_all refine TX_move rfl ?_
  with_unfolding_all refine TY_len rfl rfl rfl rfl h0_ rfl ?_
  with_unfolding_all refine TX_cmp rfl rfl rfl ?_
  with_unfolding_all refine TX_nil ?_
  with_unfolding_all refine thenQ_normal ?_
  with_unfolding_all refine TE_cond rfl (fun hc7 => ?_) (fun hc7 => ?_)
  · skip
    replace hF := ite_t hc7 hF
    with_unfolding_all refine TE_seq ?_
    with_unfolding_all refine TE_seqY ?_
    have hM8 := MB_none σ
    with_unfolding_all refine TX_assign rfl ?_
    with_unfolding_all refine TX_nil ?_
    with_unfolding_all refine thenQ_normal ?_
    with_unfolding_all refine TE_ret ?_
    with_unfolding_all refine thenQ_ret ?_
    obtain rfl := some_s hF
    exact done_any (vs := [.int .i64 (0)]) (.inr rfl) rfl (resR_tmp rfl resR_nil) ⟨rfl, hO0.ext⟩
  · skip
    replace hF := ite_f hc7 hF
    with_unfolding_all refine TE_skip ?_
    with_unfolding_all refine thenQ_normal ?_
    with_unfolding_all refine TE_seq ?_
    with_unfolding_all refine TE_seqY ?_
    have hM9 := MB_none σ
    with_unfolding_all refine TX_assign rfl ?_
    with_unfolding_all refine TX_nil ?_
    with_unfolding_all refine thenQ_normal ?_
    with_unfolding_all refine TE_seq ?_
    with_unfolding_all refine TE_seqY ?_
    have hM10 := MB_none σ
    with_unfolding_all refine TX_assign rfl ?_
    with_unfolding_all refine TX_nil ?_
    with_unfolding_all refine thenQ_normal ?_
    with_unfolding_all refine TE_seq ?_
    with_unfolding_all refine TE_seq ?_
    with_unfolding_all refine TE_seqY ?_
    have hM11 := MB_none σ
    with_unfolding_all refine TX_move rfl ?_
    with_unfolding_all refine TY_len rfl rfl rfl rfl h0_ rfl ?_
    with_unfolding_all refine TX_move rfl ?_
    with_unfolding_all refine TX_nil ?_
    with_unfolding_all refine thenQ_normal ?_
    with_unfolding_all refine TE_block ?_
    obtain ⟨p16, h20, hF⟩ := bind_s hF
    refine TE_iter (f := F.law12_MatchWindows_1_s1 x0_ c0_ c1_) (s0 := (1073741824, (-1), 0)) (a := p16) (fun (q12 : (Int × Int × Int)) z => ∃ (s14 : Mem), Own σ [] s14 [] ∧ Le z ⟨fr 37 [(1, .ptr d0_ 0), (2, .ptr d1_ 0), (5, .int .i64 (q12.1)), (6, .int .i64 (q12.2.1)), (12, v0_), (13, .int .i64 ((x0_.length : Int))), (14, .int .i64 (q12.2.2))], [], s14⟩) (fun (p16 : (Int × Int)) e z => (e = .exit 0 ∧ ∃ (s17 : Mem), Own σ [] s17 [] ∧ Le z ⟨fr 37 [(5, .int .i64 (p16.1)), (6, .int .i64 (p16.2))], [], s17⟩)) h20 ?_ ?_ ?_
    · skip
      exact ⟨σ, (hO0.sub 0 rfl), (Le_fr ⟨rfl, ⟨rfl, ⟨rfl, ⟨rfl, ⟨rfl, ⟨rfl, ⟨rfl, trivial⟩⟩⟩⟩⟩⟩⟩)⟩
    · skip
      clear hF
      rintro q12 zq12 r13 ⟨s14, hO15, hz21⟩ hF
      unfold F.law12_MatchWindows_1_s1 at hF
      refine TE_pre hz21 ?_
      with_unfolding_all refine TE_seq ?_
      with_unfolding_all refine TE_seqY ?_
      have hM22 := MB_none s14
      with_unfolding_all refine TX_cmp rfl rfl rfl ?_
      with_unfolding_all refine TX_nil ?_
      with_unfolding_all refine thenQ_normal ?_
      with_unfolding_all refine TE_seq ?_
      with_unfolding_all refine TE_cond rfl (fun hc23 => ?_) (fun hc23 => ?_)
      · skip
        replace hF := ite_t hc23 hF
        with_unfolding_all refine TE_skip ?_
        with_unfolding_all refine thenQ_normal ?_
        with_unfolding_all refine TE_seq ?_
        with_unfolding_all refine TE_block ?_
        with_unfolding_all refine TE_seq ?_
        obtain ⟨x24, h25, hF⟩ := bind_s hF
        with_unfolding_all refine TE_seqY ?_
        have hM26 := MB_none s14
        with_unfolding_all refine TY_idx (E := e_match_Span) rfl rfl rfl h0_ rfl h25 ?_
        intro u27 h28
        obtain rfl := h28
        with_unfolding_all refine TX_load_c rfl rfl ?_
        with_unfolding_all refine TY_alloc hO15 hM26 rfl rfl ?_
        rintro id29 s30 (hO31 : Own σ [] s30 [.obj id29 [.int .i64 (0), .int .i64 (0), .int .i64 (0), .int .i64 (0)]]) hM32
        with_unfolding_all refine TY_store (v := .agg [.int .i64 (x24.From), .int .i64 (x24.To), .int .i64 (x24.Part), .int .i64 (x24.Weight)]) (vc := [.int .i64 (x24.From), .int .i64 (x24.To), .int .i64 (x24.Part), .int .i64 (x24.Weight)]) hO31 hM32 (MNe.none _) rfl rfl rfl rfl (by with_unfolding_all exact Nat.le_of_ble_eq_true rfl) (ones_cons rfl (ones_cons rfl (ones_cons rfl (ones_cons rfl ones_nil)))) rfl ?_
        rintro s33 (hO34 : Own σ [] s33 [.obj id29 [.int .i64 (x24.From), .int .i64 (x24.To), .int .i64 (x24.Part), .int .i64 (x24.Weight)]]) hM35
        with_unfolding_all refine TX_nil ?_
        with_unfolding_all refine thenQ_normal ?_
        with_unfolding_all refine TE_seq ?_
        obtain ⟨x36, h37, hF⟩ := bind_s hF
        with_unfolding_all refine TE_seqY ?_
        have hM38 := MB_none s33
        with_unfolding_all refine TX_move rfl ?_
        with_unfolding_all refine TX_load_p rfl (MC_none (hO34.get0 m0_ (List.not_mem_nil))) rfl ?_
        with_unfolding_all refine TX_load_p rfl (MC_none (hO34.get0 m1_ (List.not_mem_nil))) rfl ?_
        with_unfolding_all refine TX_fieldAddr_p rfl rfl rfl ?_
        with_unfolding_all refine TX_load_p rfl (MC_none (hO34.obj 0 rfl)) rfl ?_
        have hc39 : CallE Try.prog 36 [.agg [.int .i64 (c0_.From), .int .i64 (c0_.To), u1, u3], .int .i64 (c1_), .int .i64 (x24.From)] s33 _ := law12_rank_ok h37 ⟨u1, u3, rfl, h2, h4⟩ rfl rfl
        with_unfolding_all refine TY_call hM38 rfl en36 hc39 ?_
        intro v40 s44 hv41 hX42 hM43
        have hO45 := hO34.ext_call hX42
        obtain rfl := hv41
        with_unfolding_all refine TX_min rfl rfl rfl rfl ?_
        with_unfolding_all refine TX_assign rfl ?_
        with_unfolding_all refine TX_nil ?_
        with_unfolding_all refine thenQ_normal ?_
        obtain ⟨x46, h47, hF⟩ := bind_s hF
        with_unfolding_all refine TE_seqY ?_
        have hM48 := MB_none s44
        with_unfolding_all refine TX_move rfl ?_
        with_unfolding_all refine TX_load_p rfl (MC_none (hO45.get0 m0_ (List.not_mem_nil))) rfl ?_
        with_unfolding_all refine TX_load_p rfl (MC_none (hO45.get0 m1_ (List.not_mem_nil))) rfl ?_
        with_unfolding_all refine TX_fieldAddr_p rfl rfl rfl ?_
        with_unfolding_all refine TX_load_p rfl (MC_none (hO45.obj 0 rfl)) rfl ?_
        have hc49 : CallE Try.prog 36 [.agg [.int .i64 (c0_.From), .int .i64 (c0_.To), u1, u3], .int .i64 (c1_), .int .i64 (x24.To)] s44 _ := law12_rank_ok h47 ⟨u1, u3, rfl, h2, h4⟩ rfl rfl
        with_unfolding_all refine TY_call hM48 rfl en36 hc49 ?_
        intro v50 s54 hv51 hX52 hM53
        have hO55 := hO45.ext_call hX52
        obtain rfl := hv51
        with_unfolding_all refine TX_max rfl rfl rfl rfl ?_
        with_unfolding_all refine TX_assign rfl ?_
        with_unfolding_all refine TX_nil ?_
        with_unfolding_all refine blockQ_normal ?_
        with_unfolding_all refine thenQ_normal ?_
        with_unfolding_all refine TE_seqY ?_
        have hM56 := MB_none s54
        with_unfolding_all refine TX_ari rfl rfl rfl ?_
        with_unfolding_all refine TX_move rfl ?_
        with_unfolding_all refine TX_nil ?_
        obtain rfl := some_s hF
        exact iterQ_again ⟨s54, (hO55.sub 0 rfl), (Le_fr ⟨rfl, ⟨rfl, ⟨rfl, ⟨rfl, ⟨rfl, ⟨rfl, ⟨rfl, trivial⟩⟩⟩⟩⟩⟩⟩)⟩
      · skip
        replace hF := ite_f hc23 hF
        with_unfolding_all refine TE_exit ?_
        with_unfolding_all refine thenQ_exit ?_
        obtain rfl := some_s hF
        exact iterQ_exit (⟨rfl, s14, (hO15.sub 0 rfl), (Le_fr ⟨rfl, ⟨rfl, trivial⟩⟩)⟩)
    · skip
      rintro eq12 zq12 (⟨rfl, s17, hO18, hz57⟩)
      with_unfolding_all refine blockQ_out ?_
      with_unfolding_all refine thenQ_normal ?_
      refine TE_pre hz57 ?_
      with_unfolding_all refine TE_seq ?_
      with_unfolding_all refine TE_seqY ?_
      have hM58 := MB_none s17
      with_unfolding_all refine TX_move rfl ?_
      with_unfolding_all refine TX_move rfl ?_
      with_unfolding_all refine TX_ari rfl rfl rfl ?_
      with_unfolding_all refine TX_ari rfl rfl rfl ?_
      with_unfolding_all refine TX_assign rfl ?_
      with_unfolding_all refine TX_nil ?_
      with_unfolding_all refine thenQ_normal ?_
      with_unfolding_all refine TE_ret ?_
      obtain rfl := some_s hF
      exact done_any (vs := [.int .i64 ((IntKind.wrap .i64 ((IntKind.wrap .i64 (p16.2 - p16.1)) + 1)))]) (.inr rfl) rfl (resR_tmp rfl resR_nil) ⟨rfl, hO18.ext⟩
theorem law12_MatchWindows_2_1_ok {x0_ : (List match_Span)} {c0_ : ((List match_Span) → Option Int)} {c1_ : Int} {y : Bool} (hF : F.law12_MatchWindows_2_1 x0_ c0_ c1_ = some y) {v0_ : AV} {σ : Mem} (h0_ : (RS e_match_Span) v0_ x0_) {d0_ : Nat} {w0_ : AV} (k0_ : FnOK1 Try.prog w0_ σ (RS e_match_Span) (eI .i64).rel c0_) (m0_ : σ[d0_]? = some (.cells w0_.cells)) {d1_ : Nat} {w1_ : AV} (k1_ : (eI .i64).rel w1_ c1_) (m1_ : σ[d1_]? = some (.cells w1_.cells)) :
    CallE Try.prog 38 [v0_, .ptr d0_ 0, .ptr d1_ 0] σ (fun v σ' => eB.rel v y ∧ Ext σ σ') := by
  unfold F.law12_MatchWindows_2_1 at hF
  have h1 := k0_
  obtain ⟨g2, fs3, cs4, rfl, hen5, hcall6⟩ := k0_
  obtain rfl := k1_
  refine CallE_of Try.func38 rfl Try.ntmps38 (by simp) ?_
  have hO0 := Own.start σ
  with_unfolding_all refine TE_seq ?_
  with_unfolding_all refine TE_seqY ?_
  have hM7 := MB_none σ
  with_unfolding_all refine TX_assign rfl ?_
  with_unfolding_all refine TX_nil ?_
  with_unfolding_all refine thenQ_normal ?_
  with_unfolding_all refine TE_seq ?_
  obtain ⟨x8, h9, hF⟩ := bind_s hF
  have hB10 : Bs [(d0_, [(.fn (.func g2) fs3 cs4)]), (d1_, [.int .i64 (c1_)])] σ := Bs.cons (hO0.get0 m0_ (List.not_mem_nil)) (Bs.cons (hO0.get0 m1_ (List.not_mem_nil)) (Bs.nil _))
  with_unfolding_all refine TE_drawY [(d0_, [(.fn (.func g2) fs3 cs4)]), (d1_, [.int .i64 (c1_)])] (by with_unfolding_all rfl) (by kernel_rfl) hB10 ?_
  have hM11 := MB_some hB10
  with_unfolding_all refine TX_load_p rfl (MC_some 0 rfl) rfl ?_
  with_unfolding_all refine TX_move rfl ?_
  have hc12 : CallE Try.prog g2 (fs3 ++ [v0_] ++ cs4) σ _ := hcall6 _ hO0.ext _ _ _ h0_ h9
  with_unfolding_all refine TY_call hM11 rfl hen5 hc12 ?_
  intro v13 s17 hv14 hX15 hM16
  have hO18 := hO0.ext_call hX15
  obtain rfl := hv14
  with_unfolding_all refine TX_load_p rfl (MC_some 1 rfl) rfl ?_
  with_unfolding_all refine TX_cmp rfl rfl rfl ?_
  with_unfolding_all refine TX_assign rfl ?_
  with_unfolding_all refine TX_nil ?_
  with_unfolding_all refine thenQ_normal ?_
  with_unfolding_all refine TE_ret ?_
  obtain rfl := some_s hF
  exact done_any (vs := [.bool ((decide (x8 ≤ c1_)))]) (.inr rfl) rfl (resR_tmp rfl resR_nil) ⟨rfl, hO18.ext⟩
theorem law12_MatchWindows_2_2_ok {x0_ : (List match_Span)} {x1_ : match_Span} {c0_ : ((List match_Span) → Option Int)} {c1_ : Int} {y : Bool} (hF : F.law12_MatchWindows_2_2 x0_ x1_ c0_ c1_ = some y) {v0_ : AV} {v1_ : AV} {σ : Mem} (h0_ : (RS e_match_Span) v0_ x0_) (h1_ : e_match_Span.rel v1_ x1_) {d0_ : Nat} {w0_ : AV} (k0_ : FnOK1 Try.prog w0_ σ (RS e_match_Span) (eI .i64).rel c0_) (m0_ : σ[d0_]? = some (.cells w0_.cells)) {d1_ : Nat} {w1_ : AV} (k1_ : (eI .i64).rel w1_ c1_) (m1_ : σ[d1_]? = some (.cells w1_.cells)) :
    CallE Try.prog 39 [v0_, v1_, .ptr d0_ 0, .ptr d1_ 0] σ (fun v σ' => eB.rel v y ∧ Ext σ σ') := by
  unfold F.law12_MatchWindows_2_2 at hF
  obtain rfl := h1_
  have h1 := k0_
  obtain ⟨g2, fs3, cs4, rfl, hen5, hcall6⟩ := k0_
  obtain rfl := k1_
  refine CallE_of Try.func39 rfl Try.ntmps39 (by simp) ?_
  have hO0 := Own.start σ
  with_unfolding_all refine TE_seq ?_
  with_unfolding_all refine TE_seqY ?_
  have hM7 := MB_none σ
  with_unfolding_all refine TY_box hO0 hM7 rfl rfl ?_
  rintro id8 s9 (hO10 : Own σ [] s9 [.obj id8 [.int .i64 (x1_.From), .int .i64 (x1_.To), .int .i64 (x1_.Part), .int .i64 (x1_.Weight)]]) hM11
  with_unfolding_all refine TX_assign rfl ?_
  with_unfolding_all refine TX_nil ?_
  with_unfolding_all refine thenQ_normal ?_
  with_unfolding_all refine TE_seq ?_
  obtain ⟨x12, h13, hF⟩ := bind_s hF
  obtain ⟨x14, h15, hF⟩ := bind_s hF
  have hB16 : Bs [(d0_, [(.fn (.func g2) fs3 cs4)]), (id8, [.int .i64 (x1_.From), .int .i64 (x1_.To), .int .i64 (x1_.Part), .int .i64 (x1_.Weight)]), (d1_, [.int .i64 (c1_)])] s9 := Bs.cons (hO10.get0 m0_ (List.not_mem_nil)) (Bs.cons (hO10.obj 0 rfl) (Bs.cons (hO10.get0 m1_ (List.not_mem_nil)) (Bs.nil _)))
  with_unfolding_all refine TE_drawY [(d0_, [(.fn (.func g2) fs3 cs4)]), (id8, [.int .i64 (x1_.From), .int .i64 (x1_.To), .int .i64 (x1_.Part), .int .i64 (x1_.Weight)]), (d1_, [.int .i64 (c1_)])] (by with_unfolding_all rfl) (by kernel_rfl) hB16 ?_
  have hM17 := MB_some hB16
  with_unfolding_all refine TX_load_p rfl (MC_some 0 rfl) rfl ?_
  with_unfolding_all refine TX_move rfl ?_
  with_unfolding_all refine TX_load_p rfl (MC_some 1 rfl) rfl ?_
  have h18 : All2 e_match_Span.rel ([.agg [.int .i64 (x1_.From), .int .i64 (x1_.To), .int .i64 (x1_.Part), .int .i64 (x1_.Weight)]] : List AV) ([x1_] : (List match_Span)) := ⟨rfl, trivial⟩
  with_unfolding_all refine TY_buildSlice rfl rfl rfl rfl rfl h18 rfl (by decide) (by with_unfolding_all exact Nat.le_of_ble_eq_true rfl) ?_
  have h19 : RS e_match_Span (.sl [.agg [.int .i64 (x1_.From), .int .i64 (x1_.To), .int .i64 (x1_.Part), .int .i64 (x1_.Weight)]] .full) ([x1_] : (List match_Span)) := RS.of h18
  have hc20 : CallE Try.prog 40 [v0_, (.sl [.agg [.int .i64 (x1_.From), .int .i64 (x1_.To), .int .i64 (x1_.Part), .int .i64 (x1_.Weight)]] .full)] s9 _ := law12_both_ok h13 h0_ h19
  with_unfolding_all refine TY_callN hM17 rfl en40 hc20 (fun _ _ h => ⟨_, h.2⟩) ?_
  rintro v21 s25 ⟨hv22, hX23⟩ hM24
  have hO26 : Own σ [] s25 [.buf v21, .obj id8 [.int .i64 (x1_.From), .int .i64 (x1_.To), .int .i64 (x1_.Part), .int .i64 (x1_.Weight)]] := Own.call (A := []) hO10 hX23
  have hc27 : CallE Try.prog g2 (fs3 ++ [v21] ++ cs4) s25 _ := hcall6 _ hO26.ext _ _ _ hv22 h15
  with_unfolding_all refine TY_call hM24 rfl hen5 hc27 ?_
  intro v28 s32 hv29 hX30 hM31
  have hO33 := hO26.ext_call hX30
  obtain rfl := hv29
  with_unfolding_all refine TX_load_p rfl (MC_some 2 rfl) rfl ?_
  with_unfolding_all refine TX_cmp rfl rfl rfl ?_
  with_unfolding_all refine TX_assign rfl ?_
  with_unfolding_all refine TX_nil ?_
  with_unfolding_all refine thenQ_normal ?_
  with_unfolding_all refine TE_ret ?_
  obtain rfl := some_s hF
  exact done_any (vs := [.bool ((decide (x14 ≤ c1_)))]) (.inr rfl) rfl (resR_tmp rfl resR_nil) ⟨rfl, hO33.ext⟩
end Go.Proofs.Ytihbdelgoapeoaa.K
