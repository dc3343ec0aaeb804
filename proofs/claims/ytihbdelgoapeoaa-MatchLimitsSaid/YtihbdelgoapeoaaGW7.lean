/- Walks. Printed. -/
import Derived.Test.YtihbdelgoapeoaaGW6
namespace Go.Proofs.Ytihbdelgoapeoaa.K
open Go Go.RowKit F
set_option maxRecDepth 100000
set_option maxHeartbeats 4000000
set_option linter.unusedVariables false
set_option linter.unusedSimpArgs false
theorem law12_not_ok {x0_ : (List match_Match)} {y : ((List match_Match) × Bool)} (hF : F.law12_not x0_ = some y) {v0_ : AV} {σ : Mem} (h0_ : (RS e_match_Match) v0_ x0_)  :
    CallE Try.prog 22 [v0_] σ (fun v σ' => (R2 (RS e_match_Match) eB.rel) v y ∧ Ext σ σ') := by
  unfold F.law12_not at hF
  refine CallE_of Try.func22 rfl Try.ntmps22 (by simp) ?_
  have hO0 := Own.start σ
  with_unfolding_all refine TE_seq ?_
  with_unfolding_all refine TE_seqY ?_
  have hM1 := MB_none σ
  with_unfolding_all refine TX_assign rfl ?_
  with_unfolding_all refine TX_assign rfl ?_
  with_unfolding_all refine TX_nil ?_
  with_unfolding_all refine thenQ_normal ?_
  with_unfolding_all refine TE_seq ?_
  with_unfolding_all refine TE_seqY ?_
  have hM2 := MB_none σ
  with_unfolding_all refine TY_build [.nils, .nils] rfl rfl rfl (by with_unfolding_all exact Fill.nil _) (by with_unfolding_all rfl) ?_
  have h3 : All2 e_match_Match.rel ([.agg [.nils, .nils]] : List AV) ([(F.match_Match.mk [] [])] : (List match_Match)) := ⟨⟨.nils, .nils, rfl, (RS.nil e_match_Span), (RS.nil e_match_Span)⟩, trivial⟩
  with_unfolding_all refine TY_buildSlice rfl rfl rfl rfl rfl h3 rfl (by decide) (by with_unfolding_all exact Nat.le_of_ble_eq_true rfl) ?_
  have h4 : RS e_match_Match (.sl [.agg [.nils, .nils]] .full) ([(F.match_Match.mk [] [])] : (List match_Match)) := RS.of h3
  with_unfolding_all refine TX_assign rfl ?_
  with_unfolding_all refine TX_nil ?_
  with_unfolding_all refine thenQ_normal ?_
  with_unfolding_all refine TE_seq ?_
  with_unfolding_all refine TE_seq ?_
  with_unfolding_all refine TE_seqY ?_
  have hM5 := MB_none σ
  with_unfolding_all refine TX_move rfl ?_
  with_unfolding_all refine TY_len rfl rfl rfl rfl h0_ rfl ?_
  with_unfolding_all refine TX_move rfl ?_
  with_unfolding_all refine TX_nil ?_
  with_unfolding_all refine thenQ_normal ?_
  with_unfolding_all refine TE_block ?_
  obtain ⟨a18, h19, hF⟩ := bind_s hF
  refine TE_iter (f := F.law12_not_s1 x0_) (s0 := (([(F.match_Match.mk [] [])] : (List match_Match)), 0)) (a := a18) (fun (q6 : ((List match_Match) × Int)) z => ∃ (u8 : AV) (s10 : Mem), RS e_match_Match u8 q6.1 ∧ Own σ [] s10 [] ∧ Le z ⟨fr 62 [(4, u8), (16, v0_), (17, .int .i64 ((x0_.length : Int))), (18, .int .i64 (q6.2))], [], s10⟩) (fun (a : ((List match_Match) ⊕ ((List match_Match) × Bool))) e z => (∃ p12 : (List match_Match), a = (.inl p12) ∧ e = .exit 0 ∧ ∃ (u13 : AV) (s15 : Mem), RS e_match_Match u13 p12 ∧ Own σ [] s15 [] ∧ Le z ⟨fr 62 [(4, u13)], [], s15⟩) ∨ (∃ p17 : ((List match_Match) × Bool), a = (.inr (p17)) ∧ e = .ret ∧ doneQ Try.prog Try.f22 (fun v σ' => (R2 (RS e_match_Match) eB.rel) v p17 ∧ Ext σ σ') .ret z)) h19 ?_ ?_ ?_
  · skip
    exact ⟨(.sl [.agg [.nils, .nils]] .full), σ, h4, (hO0.sub 0 rfl), (Le_fr ⟨rfl, ⟨rfl, ⟨rfl, ⟨rfl, trivial⟩⟩⟩⟩)⟩
  · skip
    clear hF
    rintro q6 zq6 r7 ⟨u8, s10, h9, hO11, hz20⟩ hF
    unfold F.law12_not_s1 at hF
    refine TE_pre hz20 ?_
    with_unfolding_all refine TE_seq ?_
    with_unfolding_all refine TE_seqY ?_
    have hM21 := MB_none s10
    with_unfolding_all refine TX_cmp rfl rfl rfl ?_
    with_unfolding_all refine TX_nil ?_
    with_unfolding_all refine thenQ_normal ?_
    with_unfolding_all refine TE_seq ?_
    with_unfolding_all refine TE_cond rfl (fun hc22 => ?_) (fun hc22 => ?_)
    · skip
      replace hF := ite_t hc22 hF
      with_unfolding_all refine TE_skip ?_
      with_unfolding_all refine thenQ_normal ?_
      with_unfolding_all refine TE_seq ?_
      with_unfolding_all refine TE_block ?_
      with_unfolding_all refine TE_seq ?_
      obtain ⟨x23, h24, hF⟩ := bind_s hF
      with_unfolding_all refine TE_seqY ?_
      have hM29 := MB_none s10
      with_unfolding_all refine TY_idx (E := e_match_Match) rfl rfl rfl h0_ rfl h24 ?_
      intro u30 h31
      obtain ⟨u32, u34, rfl, h33, h35⟩ := h31
      with_unfolding_all refine TX_load_c rfl rfl ?_
      with_unfolding_all refine TY_alloc hO11 hM29 rfl rfl ?_
      rintro id36 s37 (hO38 : Own σ [] s37 [.obj id36 [.nils, .nils]]) hM39
      with_unfolding_all refine TY_store (v := .agg [u32, u34]) (vc := [u32, u34]) hO38 hM39 (MNe.none _) rfl rfl rfl rfl (by with_unfolding_all exact Nat.le_of_ble_eq_true rfl) (ones_cons (RS.one1 h33) (ones_cons (RS.one1 h35) ones_nil)) rfl ?_
      rintro s40 (hO41 : Own σ [] s40 [.obj id36 [u32, u34]]) hM42
      with_unfolding_all refine TX_nil ?_
      with_unfolding_all refine thenQ_normal ?_
      with_unfolding_all refine TE_seq ?_
      with_unfolding_all refine TE_seqY ?_
      have hM43 := MB_none s40
      have h44 : All2 e_match_Match.rel ([] : List AV) ([] : (List match_Match)) := trivial
      with_unfolding_all refine TY_buildSlice rfl rfl rfl rfl rfl h44 rfl (by decide) (by with_unfolding_all exact Nat.le_of_ble_eq_true rfl) ?_
      have h45 : RS e_match_Match (.sl [] .full) ([] : (List match_Match)) := RS.of h44
      with_unfolding_all refine TX_assign rfl ?_
      with_unfolding_all refine TX_nil ?_
      with_unfolding_all refine thenQ_normal ?_
      with_unfolding_all refine TE_seq ?_
      with_unfolding_all refine TE_seq ?_
      with_unfolding_all refine TE_seqY ?_
      have hM46 := MB_none s40
      with_unfolding_all refine TX_fieldAddr_p rfl rfl rfl ?_
      with_unfolding_all refine TX_load_p rfl (MC_none (hO41.obj 0 rfl)) rfl ?_
      with_unfolding_all refine TY_len rfl rfl rfl rfl h33 rfl ?_
      with_unfolding_all refine TX_move rfl ?_
      with_unfolding_all refine TX_nil ?_
      with_unfolding_all refine thenQ_normal ?_
      with_unfolding_all refine TE_block ?_
      obtain ⟨p53, h59, hF⟩ := bind_s hF
      refine TE_iter (f := F.law12_not_s2 x23) (s0 := (([] : (List match_Match)), 0)) (a := p53) (fun (q47 : ((List match_Match) × Int)) z => ∃ (u49 : AV) (s51 : Mem), RS e_match_Match u49 q47.1 ∧ Own σ [] s51 [.buf u49, .obj id36 [u32, u34]] ∧ Le z ⟨fr 62 [(4, u8), (6, .ptr id36 0), (7, u49), (16, v0_), (17, .int .i64 ((x0_.length : Int))), (18, .int .i64 (q6.2)), (24, u32), (25, .int .i64 ((x23.In.length : Int))), (26, .int .i64 (q47.2))], [], s51⟩) (fun (p53 : (List match_Match)) e z => (e = .exit 2 ∧ ∃ (u54 : AV) (s56 : Mem), RS e_match_Match u54 p53 ∧ Own σ [] s56 [.buf u54, .obj id36 [u32, u34]] ∧ Le z ⟨fr 62 [(4, u8), (6, .ptr id36 0), (7, u54), (16, v0_), (17, .int .i64 ((x0_.length : Int))), (18, .int .i64 (q6.2))], [], s56⟩)) h59 ?_ ?_ ?_
      · skip
        have hO60 : Own σ [] s40 [.buf (.sl [] .full), .obj id36 [u32, u34]] := hO41.bufFull []
        have hO61 : Own σ [] s40 [.obj id36 [u32, u34], .buf (.sl [] .full)] := hO60.front 1 rfl rfl
        have hO62 : Own σ [] s40 [.buf (.sl [] .full), .obj id36 [u32, u34]] := hO61.front 1 rfl rfl
        exact ⟨(.sl [] .full), s40, h45, (hO62.sub 2 rfl), (Le_fr ⟨rfl, ⟨rfl, ⟨rfl, ⟨rfl, ⟨rfl, ⟨rfl, ⟨rfl, ⟨rfl, ⟨rfl, trivial⟩⟩⟩⟩⟩⟩⟩⟩⟩)⟩
      · skip
        clear hF
        rintro q47 zq47 r48 ⟨u49, s51, h50, hO52, hz63⟩ hF
        unfold F.law12_not_s2 at hF
        refine TE_pre hz63 ?_
        with_unfolding_all refine TE_seq ?_
        with_unfolding_all refine TE_seqY ?_
        have hM64 := MB_none s51
        with_unfolding_all refine TX_cmp rfl rfl rfl ?_
        with_unfolding_all refine TX_nil ?_
        with_unfolding_all refine thenQ_normal ?_
        with_unfolding_all refine TE_seq ?_
        with_unfolding_all refine TE_cond rfl (fun hc65 => ?_) (fun hc65 => ?_)
        · skip
          replace hF := ite_t hc65 hF
          with_unfolding_all refine TE_skip ?_
          with_unfolding_all refine thenQ_normal ?_
          with_unfolding_all refine TE_seq ?_
          with_unfolding_all refine TE_block ?_
          with_unfolding_all refine TE_seq ?_
          obtain ⟨x66, h67, hF⟩ := bind_s hF
          with_unfolding_all refine TE_seqY ?_
          have hM68 := MB_none s51
          with_unfolding_all refine TY_idx (E := e_match_Span) rfl rfl rfl h33 rfl h67 ?_
          intro u69 h70
          obtain rfl := h70
          with_unfolding_all refine TX_load_c rfl rfl ?_
          with_unfolding_all refine TY_alloc hO52 hM68 rfl rfl ?_
          rintro id71 s72 (hO73 : Own σ [] s72 [.obj id71 [.int .i64 (0), .int .i64 (0), .int .i64 (0), .int .i64 (0)], .buf u49, .obj id36 [u32, u34]]) hM74
          with_unfolding_all refine TY_store (v := .agg [.int .i64 (x66.From), .int .i64 (x66.To), .int .i64 (x66.Part), .int .i64 (x66.Weight)]) (vc := [.int .i64 (x66.From), .int .i64 (x66.To), .int .i64 (x66.Part), .int .i64 (x66.Weight)]) hO73 hM74 (MNe.none _) rfl rfl rfl rfl (by with_unfolding_all exact Nat.le_of_ble_eq_true rfl) (ones_cons rfl (ones_cons rfl (ones_cons rfl (ones_cons rfl ones_nil)))) rfl ?_
          rintro s75 (hO76 : Own σ [] s75 [.obj id71 [.int .i64 (x66.From), .int .i64 (x66.To), .int .i64 (x66.Part), .int .i64 (x66.Weight)], .buf u49, .obj id36 [u32, u34]]) hM77
          with_unfolding_all refine TX_nil ?_
          with_unfolding_all refine thenQ_normal ?_
          obtain ⟨x78, h79, hF⟩ := bind_s hF
          with_unfolding_all refine TE_seqY ?_
          have hM80 := MB_none s75
          with_unfolding_all refine TX_move rfl ?_
          with_unfolding_all refine TX_load_p rfl (MC_none (hO76.obj 0 rfl)) rfl ?_
          have h81 : All2 e_match_Span.rel ([.agg [.int .i64 (x66.From), .int .i64 (x66.To), .int .i64 (x66.Part), .int .i64 (x66.Weight)]] : List AV) ([x66] : (List match_Span)) := ⟨rfl, trivial⟩
          with_unfolding_all refine TY_buildSlice rfl rfl rfl rfl rfl h81 rfl (by decide) (by with_unfolding_all exact Nat.le_of_ble_eq_true rfl) ?_
          have h82 : RS e_match_Span (.sl [.agg [.int .i64 (x66.From), .int .i64 (x66.To), .int .i64 (x66.Part), .int .i64 (x66.Weight)]] .full) ([x66] : (List match_Span)) := RS.of h81
          with_unfolding_all refine TY_build [.nils, (.sl [.agg [.int .i64 (x66.From), .int .i64 (x66.To), .int .i64 (x66.Part), .int .i64 (x66.Weight)]] .full)] rfl rfl rfl (by with_unfolding_all exact Fill.cons rfl (RS.cells h82) rfl (by with_unfolding_all exact Nat.le_of_ble_eq_true rfl) (Fill.nil _)) (by with_unfolding_all rfl) ?_
          have h83 : All2 e_match_Match.rel ([.agg [.nils, (.sl [.agg [.int .i64 (x66.From), .int .i64 (x66.To), .int .i64 (x66.Part), .int .i64 (x66.Weight)]] .full)]] : List AV) ([(F.match_Match.mk [] ([x66] : (List match_Span)))] : (List match_Match)) := ⟨⟨.nils, (.sl [.agg [.int .i64 (x66.From), .int .i64 (x66.To), .int .i64 (x66.Part), .int .i64 (x66.Weight)]] .full), rfl, (RS.nil e_match_Span), h82⟩, trivial⟩
          with_unfolding_all refine TY_buildSlice rfl rfl rfl rfl rfl h83 rfl (by decide) (by with_unfolding_all exact Nat.le_of_ble_eq_true rfl) ?_
          have h84 : RS e_match_Match (.sl [.agg [.nils, (.sl [.agg [.int .i64 (x66.From), .int .i64 (x66.To), .int .i64 (x66.Part), .int .i64 (x66.Weight)]] .full)]] .full) ([(F.match_Match.mk [] ([x66] : (List match_Span)))] : (List match_Match)) := RS.of h83
          have hO85 : Own σ [] s75 [.buf u49, .obj id71 [.int .i64 (x66.From), .int .i64 (x66.To), .int .i64 (x66.Part), .int .i64 (x66.Weight)], .obj id36 [u32, u34]] := hO76.front 1 rfl rfl
          with_unfolding_all refine TY_append appT22_22 hO85 hM80 rfl rfl rfl rfl h50 rfl h84 h79 ?_
          rintro u86 s88 (h87 : RS e_match_Match u86 x78) (hO89 : Own σ [] s88 [.buf u86, .obj id71 [.int .i64 (x66.From), .int .i64 (x66.To), .int .i64 (x66.Part), .int .i64 (x66.Weight)], .obj id36 [u32, u34]]) hM90
          with_unfolding_all refine TX_assign rfl ?_
          with_unfolding_all refine TX_nil ?_
          with_unfolding_all refine blockQ_normal ?_
          with_unfolding_all refine thenQ_normal ?_
          with_unfolding_all refine TE_seqY ?_
          have hM91 := MB_none s88
          with_unfolding_all refine TX_ari rfl rfl rfl ?_
          with_unfolding_all refine TX_move rfl ?_
          with_unfolding_all refine TX_nil ?_
          obtain rfl := some_s hF
          have hO92 : Own σ [] s88 [.obj id36 [u32, u34], .buf u86, .obj id71 [.int .i64 (x66.From), .int .i64 (x66.To), .int .i64 (x66.Part), .int .i64 (x66.Weight)]] := hO89.front 2 rfl rfl
          have hO93 : Own σ [] s88 [.buf u86, .obj id36 [u32, u34], .obj id71 [.int .i64 (x66.From), .int .i64 (x66.To), .int .i64 (x66.Part), .int .i64 (x66.Weight)]] := hO92.front 1 rfl rfl
          exact iterQ_again ⟨u86, s88, h87, (hO93.sub 2 rfl), (Le_fr ⟨rfl, ⟨rfl, ⟨rfl, ⟨rfl, ⟨rfl, ⟨rfl, ⟨rfl, ⟨rfl, ⟨rfl, trivial⟩⟩⟩⟩⟩⟩⟩⟩⟩)⟩
        · skip
          replace hF := ite_f hc65 hF
          with_unfolding_all refine TE_exit ?_
          with_unfolding_all refine thenQ_exit ?_
          obtain rfl := some_s hF
          have hO94 : Own σ [] s51 [.obj id36 [u32, u34], .buf u49] := hO52.front 1 rfl rfl
          have hO95 : Own σ [] s51 [.buf u49, .obj id36 [u32, u34]] := hO94.front 1 rfl rfl
          exact iterQ_exit (⟨rfl, u49, s51, h50, (hO95.sub 2 rfl), (Le_fr ⟨rfl, ⟨rfl, ⟨rfl, ⟨rfl, ⟨rfl, ⟨rfl, trivial⟩⟩⟩⟩⟩⟩)⟩)
      · skip
        rintro eq47 zq47 (⟨rfl, u54, s56, h55, hO57, hz96⟩)
        with_unfolding_all refine blockQ_out ?_
        with_unfolding_all refine thenQ_normal ?_
        refine TE_pre hz96 ?_
        with_unfolding_all refine TE_seq ?_
        with_unfolding_all refine TE_seq ?_
        with_unfolding_all refine TE_seqY ?_
        have hM97 := MB_none s56
        with_unfolding_all refine TX_fieldAddr_p rfl rfl rfl ?_
        with_unfolding_all refine TX_load_p rfl (MC_none (hO57.obj 1 rfl)) rfl ?_
        with_unfolding_all refine TY_len rfl rfl rfl rfl h35 rfl ?_
        with_unfolding_all refine TX_move rfl ?_
        with_unfolding_all refine TX_nil ?_
        with_unfolding_all refine thenQ_normal ?_
        with_unfolding_all refine TE_block ?_
        obtain ⟨p104, h110, hF⟩ := bind_s hF
        refine TE_iter (f := F.law12_not_s3 x23) (s0 := (p53, 0)) (a := p104) (fun (q98 : ((List match_Match) × Int)) z => ∃ (u100 : AV) (s102 : Mem), RS e_match_Match u100 q98.1 ∧ Own σ [] s102 [.buf u100, .obj id36 [u32, u34]] ∧ Le z ⟨fr 62 [(4, u8), (7, u100), (16, v0_), (17, .int .i64 ((x0_.length : Int))), (18, .int .i64 (q6.2)), (38, u34), (39, .int .i64 ((x23.Out.length : Int))), (40, .int .i64 (q98.2))], [], s102⟩) (fun (p104 : (List match_Match)) e z => (e = .exit 4 ∧ ∃ (u105 : AV) (s107 : Mem), RS e_match_Match u105 p104 ∧ Own σ [] s107 [.buf u105, .obj id36 [u32, u34]] ∧ Le z ⟨fr 62 [(4, u8), (7, u105), (16, v0_), (17, .int .i64 ((x0_.length : Int))), (18, .int .i64 (q6.2))], [], s107⟩)) h110 ?_ ?_ ?_
        · skip
          have hO111 : Own σ [] s56 [.obj id36 [u32, u34], .buf u54] := hO57.front 1 rfl rfl
          have hO112 : Own σ [] s56 [.buf u54, .obj id36 [u32, u34]] := hO111.front 1 rfl rfl
          exact ⟨u54, s56, h55, (hO112.sub 2 rfl), (Le_fr ⟨rfl, ⟨rfl, ⟨rfl, ⟨rfl, ⟨rfl, ⟨rfl, ⟨rfl, ⟨rfl, trivial⟩⟩⟩⟩⟩⟩⟩⟩)⟩
        · skip
          clear hF
          rintro q98 zq98 r99 ⟨u100, s102, h101, hO103, hz113⟩ hF
          unfold F.law12_not_s3 at hF
          refine TE_pre hz113 ?_
          with_unfolding_all refine TE_seq ?_
          with_unfolding_all refine TE_seqY ?_
          have hM114 := MB_none s102
          with_unfolding_all refine TX_cmp rfl rfl rfl ?_
          with_unfolding_all refine TX_nil ?_
          with_unfolding_all refine thenQ_normal ?_
          with_unfolding_all refine TE_seq ?_
          with_unfolding_all refine TE_cond rfl (fun hc115 => ?_) (fun hc115 => ?_)
          · skip
            replace hF := ite_t hc115 hF
            with_unfolding_all refine TE_skip ?_
            with_unfolding_all refine thenQ_normal ?_
            with_unfolding_all refine TE_seq ?_
            with_unfolding_all refine TE_block ?_
            with_unfolding_all refine TE_seq ?_
            obtain ⟨x116, h117, hF⟩ := bind_s hF
            with_unfolding_all refine TE_seqY ?_
            have hM118 := MB_none s102
            with_unfolding_all refine TY_idx (E := e_match_Span) rfl rfl rfl h35 rfl h117 ?_
            intro u119 h120
            obtain rfl := h120
            with_unfolding_all refine TX_load_c rfl rfl ?_
            with_unfolding_all refine TY_alloc hO103 hM118 rfl rfl ?_
            rintro id121 s122 (hO123 : Own σ [] s122 [.obj id121 [.int .i64 (0), .int .i64 (0), .int .i64 (0), .int .i64 (0)], .buf u100, .obj id36 [u32, u34]]) hM124
            with_unfolding_all refine TY_store (v := .agg [.int .i64 (x116.From), .int .i64 (x116.To), .int .i64 (x116.Part), .int .i64 (x116.Weight)]) (vc := [.int .i64 (x116.From), .int .i64 (x116.To), .int .i64 (x116.Part), .int .i64 (x116.Weight)]) hO123 hM124 (MNe.none _) rfl rfl rfl rfl (by with_unfolding_all exact Nat.le_of_ble_eq_true rfl) (ones_cons rfl (ones_cons rfl (ones_cons rfl (ones_cons rfl ones_nil)))) rfl ?_
            rintro s125 (hO126 : Own σ [] s125 [.obj id121 [.int .i64 (x116.From), .int .i64 (x116.To), .int .i64 (x116.Part), .int .i64 (x116.Weight)], .buf u100, .obj id36 [u32, u34]]) hM127
            with_unfolding_all refine TX_nil ?_
            with_unfolding_all refine thenQ_normal ?_
            obtain ⟨x128, h129, hF⟩ := bind_s hF
            with_unfolding_all refine TE_seqY ?_
            have hM130 := MB_none s125
            with_unfolding_all refine TX_move rfl ?_
            with_unfolding_all refine TX_load_p rfl (MC_none (hO126.obj 0 rfl)) rfl ?_
            have h131 : All2 e_match_Span.rel ([.agg [.int .i64 (x116.From), .int .i64 (x116.To), .int .i64 (x116.Part), .int .i64 (x116.Weight)]] : List AV) ([x116] : (List match_Span)) := ⟨rfl, trivial⟩
            with_unfolding_all refine TY_buildSlice rfl rfl rfl rfl rfl h131 rfl (by decide) (by with_unfolding_all exact Nat.le_of_ble_eq_true rfl) ?_
            have h132 : RS e_match_Span (.sl [.agg [.int .i64 (x116.From), .int .i64 (x116.To), .int .i64 (x116.Part), .int .i64 (x116.Weight)]] .full) ([x116] : (List match_Span)) := RS.of h131
            with_unfolding_all refine TY_build [(.sl [.agg [.int .i64 (x116.From), .int .i64 (x116.To), .int .i64 (x116.Part), .int .i64 (x116.Weight)]] .full), .nils] rfl rfl rfl (by with_unfolding_all exact Fill.cons rfl (RS.cells h132) rfl (by with_unfolding_all exact Nat.le_of_ble_eq_true rfl) (Fill.nil _)) (by with_unfolding_all rfl) ?_
            have h133 : All2 e_match_Match.rel ([.agg [(.sl [.agg [.int .i64 (x116.From), .int .i64 (x116.To), .int .i64 (x116.Part), .int .i64 (x116.Weight)]] .full), .nils]] : List AV) ([(F.match_Match.mk ([x116] : (List match_Span)) [])] : (List match_Match)) := ⟨⟨(.sl [.agg [.int .i64 (x116.From), .int .i64 (x116.To), .int .i64 (x116.Part), .int .i64 (x116.Weight)]] .full), .nils, rfl, h132, (RS.nil e_match_Span)⟩, trivial⟩
            with_unfolding_all refine TY_buildSlice rfl rfl rfl rfl rfl h133 rfl (by decide) (by with_unfolding_all exact Nat.le_of_ble_eq_true rfl) ?_
            have h134 : RS e_match_Match (.sl [.agg [(.sl [.agg [.int .i64 (x116.From), .int .i64 (x116.To), .int .i64 (x116.Part), .int .i64 (x116.Weight)]] .full), .nils]] .full) ([(F.match_Match.mk ([x116] : (List match_Span)) [])] : (List match_Match)) := RS.of h133
            have hO135 : Own σ [] s125 [.buf u100, .obj id121 [.int .i64 (x116.From), .int .i64 (x116.To), .int .i64 (x116.Part), .int .i64 (x116.Weight)], .obj id36 [u32, u34]] := hO126.front 1 rfl rfl
            with_unfolding_all refine TY_append appT22_22 hO135 hM130 rfl rfl rfl rfl h101 rfl h134 h129 ?_
            rintro u136 s138 (h137 : RS e_match_Match u136 x128) (hO139 : Own σ [] s138 [.buf u136, .obj id121 [.int .i64 (x116.From), .int .i64 (x116.To), .int .i64 (x116.Part), .int .i64 (x116.Weight)], .obj id36 [u32, u34]]) hM140
            with_unfolding_all refine TX_assign rfl ?_
            with_unfolding_all refine TX_nil ?_
            with_unfolding_all refine blockQ_normal ?_
            with_unfolding_all refine thenQ_normal ?_
            with_unfolding_all refine TE_seqY ?_
            have hM141 := MB_none s138
            with_unfolding_all refine TX_ari rfl rfl rfl ?_
            with_unfolding_all refine TX_move rfl ?_
            with_unfolding_all refine TX_nil ?_
            obtain rfl := some_s hF
            have hO142 : Own σ [] s138 [.obj id36 [u32, u34], .buf u136, .obj id121 [.int .i64 (x116.From), .int .i64 (x116.To), .int .i64 (x116.Part), .int .i64 (x116.Weight)]] := hO139.front 2 rfl rfl
            have hO143 : Own σ [] s138 [.buf u136, .obj id36 [u32, u34], .obj id121 [.int .i64 (x116.From), .int .i64 (x116.To), .int .i64 (x116.Part), .int .i64 (x116.Weight)]] := hO142.front 1 rfl rfl
            exact iterQ_again ⟨u136, s138, h137, (hO143.sub 2 rfl), (Le_fr ⟨rfl, ⟨rfl, ⟨rfl, ⟨rfl, ⟨rfl, ⟨rfl, ⟨rfl, ⟨rfl, trivial⟩⟩⟩⟩⟩⟩⟩⟩)⟩
          · skip
            replace hF := ite_f hc115 hF
            with_unfolding_all refine TE_exit ?_
            with_unfolding_all refine thenQ_exit ?_
            obtain rfl := some_s hF
            have hO144 : Own σ [] s102 [.obj id36 [u32, u34], .buf u100] := hO103.front 1 rfl rfl
            have hO145 : Own σ [] s102 [.buf u100, .obj id36 [u32, u34]] := hO144.front 1 rfl rfl
            exact iterQ_exit (⟨rfl, u100, s102, h101, (hO145.sub 2 rfl), (Le_fr ⟨rfl, ⟨rfl, ⟨rfl, ⟨rfl, ⟨rfl, trivial⟩⟩⟩⟩⟩)⟩)
        · skip
          rintro eq98 zq98 (⟨rfl, u105, s107, h106, hO108, hz146⟩)
          with_unfolding_all refine blockQ_out ?_
          with_unfolding_all refine thenQ_normal ?_
          refine TE_pre hz146 ?_
          with_unfolding_all refine TE_seq ?_
          obtain ⟨x147, h148, hF⟩ := bind_s hF
          with_unfolding_all refine TE_seqY ?_
          have hM149 := MB_none s107
          with_unfolding_all refine TX_move rfl ?_
          with_unfolding_all refine TX_move rfl ?_
          have hc150 : CallE Try.prog 21 [u8, u105] s107 _ := law12_and_ok h148 h9 h106
          with_unfolding_all refine TY_call hM149 rfl en21 hc150 ?_
          intro v151 s155 hv152 hX153 hM154
          have hO156 := hO108.ext_call hX153
          obtain ⟨v157, v158, rfl, h159, h160⟩ := hv152
          obtain rfl := h160
          with_unfolding_all refine TX_move rfl ?_
          with_unfolding_all refine TX_extract rfl rfl ?_
          with_unfolding_all refine TX_extract rfl rfl ?_
          with_unfolding_all refine TX_assign rfl ?_
          with_unfolding_all refine TX_assign rfl ?_
          with_unfolding_all refine TX_nil ?_
          with_unfolding_all refine thenQ_normal ?_
          with_unfolding_all refine TE_seq ?_
          with_unfolding_all refine TE_seq ?_
          with_unfolding_all refine TE_seqY ?_
          have hM161 := MB_none s155
          with_unfolding_all refine TX_move rfl ?_
          with_unfolding_all refine TX_not rfl ?_
          with_unfolding_all refine TX_nil ?_
          with_unfolding_all refine thenQ_normal ?_
          with_unfolding_all refine TE_cond rfl (fun hc162 => ?_) (fun hc162 => ?_)
          · skip
            replace hF := ite_t hc162 hF
            with_unfolding_all refine TE_seq ?_
            with_unfolding_all refine TE_seqY ?_
            have hM163 := MB_none s155
            with_unfolding_all refine TX_assign rfl ?_
            with_unfolding_all refine TX_assign rfl ?_
            with_unfolding_all refine TX_nil ?_
            with_unfolding_all refine thenQ_normal ?_
            with_unfolding_all refine TE_ret ?_
            with_unfolding_all refine thenQ_ret ?_
            with_unfolding_all refine blockQ_ret ?_
            with_unfolding_all refine thenQ_ret ?_
            obtain rfl := some_s hF
            exact iterQ_ret (.inr <| ⟨_, rfl, rfl, (done_any (vs := [.nils, .bool (false)]) (.inr rfl) rfl (resR_tmp rfl (resR_tmp rfl resR_nil)) ⟨⟨_, _, rfl, (RS.nil e_match_Match), rfl⟩, hO156.ext⟩)⟩)
          · skip
            replace hF := ite_f hc162 hF
            with_unfolding_all refine TE_skip ?_
            with_unfolding_all refine thenQ_normal ?_
            with_unfolding_all refine TE_seqY ?_
            have hM164 := MB_none s155
            with_unfolding_all refine TX_move rfl ?_
            with_unfolding_all refine TX_assign rfl ?_
            with_unfolding_all refine TX_nil ?_
            with_unfolding_all refine blockQ_normal ?_
            with_unfolding_all refine thenQ_normal ?_
            with_unfolding_all refine TE_seqY ?_
            have hM165 := MB_none s155
            with_unfolding_all refine TX_ari rfl rfl rfl ?_
            with_unfolding_all refine TX_move rfl ?_
            with_unfolding_all refine TX_nil ?_
            obtain rfl := some_s hF
            exact iterQ_again ⟨v157, s155, h159, (hO156.sub 0 rfl), (Le_fr ⟨rfl, ⟨rfl, ⟨rfl, ⟨rfl, trivial⟩⟩⟩⟩)⟩
    · skip
      replace hF := ite_f hc22 hF
      with_unfolding_all refine TE_exit ?_
      with_unfolding_all refine thenQ_exit ?_
      obtain rfl := some_s hF
      exact iterQ_exit (.inl <| ⟨_, rfl, rfl, u8, s10, h9, (hO11.sub 0 rfl), (Le_fr ⟨rfl, trivial⟩)⟩)
  · skip
    rintro eq6 zq6 (⟨p12, rfl, rfl, u13, s15, h14, hO16, hz166⟩ | ⟨p17, rfl, rfl, hdp17⟩)
    · skip
      try dsimp only at hF
      with_unfolding_all refine blockQ_out ?_
      with_unfolding_all refine thenQ_normal ?_
      refine TE_pre hz166 ?_
      with_unfolding_all refine TE_seq ?_
      with_unfolding_all refine TE_seqY ?_
      have hM167 := MB_none s15
      with_unfolding_all refine TX_move rfl ?_
      with_unfolding_all refine TX_assign rfl ?_
      with_unfolding_all refine TX_assign rfl ?_
      with_unfolding_all refine TX_nil ?_
      with_unfolding_all refine thenQ_normal ?_
      with_unfolding_all refine TE_ret ?_
      obtain rfl := some_s hF
      exact done_any (vs := [u13, .bool (true)]) (.inr rfl) rfl (resR_tmp rfl (resR_tmp rfl resR_nil)) ⟨⟨_, _, rfl, h14, rfl⟩, hO16.ext⟩
    · skip
      try dsimp only at hF
      with_unfolding_all refine blockQ_ret ?_
      with_unfolding_all refine thenQ_ret ?_
      obtain rfl := some_s hF
      exact hdp17
theorem law12_MatchJoins_1_ok {x0_ : (List match_Match)} {y : Bool} (hF : F.law12_MatchJoins_1 x0_ = some y) {v0_ : AV} {σ : Mem} (h0_ : (RS e_match_Match) v0_ x0_)  :
    CallE Try.prog 23 [v0_] σ (fun v σ' => eB.rel v y ∧ Ext σ σ') := by
  unfold F.law12_MatchJoins_1 at hF
  refine CallE_of Try.func23 rfl Try.ntmps23 (by simp) ?_
  have hO0 := Own.start σ
  with_unfolding_all refine TE_seq ?_
  with_unfolding_all refine TE_seqY ?_
  have hM1 := MB_none σ
  with_unfolding_all refine TX_assign rfl ?_
  with_unfolding_all refine TX_nil ?_
  with_unfolding_all refine thenQ_normal ?_
  with_unfolding_all refine TE_seq ?_
  with_unfolding_all refine TE_seq ?_
  with_unfolding_all refine TE_seqY ?_
  have hM2 := MB_none σ
  with_unfolding_all refine TX_move rfl ?_
  with_unfolding_all refine TY_len rfl rfl rfl rfl h0_ rfl ?_
  with_unfolding_all refine TX_move rfl ?_
  with_unfolding_all refine TX_nil ?_
  with_unfolding_all refine thenQ_normal ?_
  with_unfolding_all refine TE_block ?_
  obtain ⟨a11, h12, hF⟩ := bind_s hF
  refine TE_iter (f := F.law12_MatchJoins_1_s1 x0_) (s0 := 0) (a := a11) (fun (q3 : Int) z => ∃ (s5 : Mem), Own σ [] s5 [] ∧ Le z ⟨fr 16 [(5, v0_), (6, .int .i64 ((x0_.length : Int))), (7, .int .i64 (q3))], [], s5⟩) (fun (a : (Unit ⊕ Bool)) e z => (∃ p7 : Unit, a = (.inl p7) ∧ e = .exit 0 ∧ ∃ (s8 : Mem), Own σ [] s8 [] ∧ Le z ⟨fr 16 [], [], s8⟩) ∨ (∃ p10 : Bool, a = (.inr (p10)) ∧ e = .ret ∧ doneQ Try.prog Try.f23 (fun v σ' => eB.rel v p10 ∧ Ext σ σ') .ret z)) h12 ?_ ?_ ?_
  · skip
    exact ⟨σ, (hO0.sub 0 rfl), (Le_fr ⟨rfl, ⟨rfl, ⟨rfl, trivial⟩⟩⟩)⟩
  · skip
    clear hF
    rintro q3 zq3 r4 ⟨s5, hO6, hz13⟩ hF
    unfold F.law12_MatchJoins_1_s1 at hF
    refine TE_pre hz13 ?_
    with_unfolding_all refine TE_seq ?_
    with_unfolding_all refine TE_seqY ?_
    have hM14 := MB_none s5
    with_unfolding_all refine TX_cmp rfl rfl rfl ?_
    with_unfolding_all refine TX_nil ?_
    with_unfolding_all refine thenQ_normal ?_
    with_unfolding_all refine TE_seq ?_
    with_unfolding_all refine TE_cond rfl (fun hc15 => ?_) (fun hc15 => ?_)
    · skip
      replace hF := ite_t hc15 hF
      with_unfolding_all refine TE_skip ?_
      with_unfolding_all refine thenQ_normal ?_
      with_unfolding_all refine TE_seq ?_
      with_unfolding_all refine TE_block ?_
      with_unfolding_all refine TE_seq ?_
      obtain ⟨x16, h17, hF⟩ := bind_s hF
      with_unfolding_all refine TE_seqY ?_
      have hM22 := MB_none s5
      with_unfolding_all refine TY_idx (E := e_match_Match) rfl rfl rfl h0_ rfl h17 ?_
      intro u23 h24
      obtain ⟨u25, u27, rfl, h26, h28⟩ := h24
      with_unfolding_all refine TX_load_c rfl rfl ?_
      with_unfolding_all refine TY_alloc hO6 hM22 rfl rfl ?_
      rintro id29 s30 (hO31 : Own σ [] s30 [.obj id29 [.nils, .nils]]) hM32
      with_unfolding_all refine TY_store (v := .agg [u25, u27]) (vc := [u25, u27]) hO31 hM32 (MNe.none _) rfl rfl rfl rfl (by with_unfolding_all exact Nat.le_of_ble_eq_true rfl) (ones_cons (RS.one1 h26) (ones_cons (RS.one1 h28) ones_nil)) rfl ?_
      rintro s33 (hO34 : Own σ [] s33 [.obj id29 [u25, u27]]) hM35
      with_unfolding_all refine TX_nil ?_
      with_unfolding_all refine thenQ_normal ?_
      with_unfolding_all refine TE_seq ?_
      with_unfolding_all refine TE_seqY ?_
      have hM36 := MB_none s33
      with_unfolding_all refine TX_fieldAddr_p rfl rfl rfl ?_
      with_unfolding_all refine TX_load_p rfl (MC_none (hO34.obj 0 rfl)) rfl ?_
      with_unfolding_all refine TY_len rfl rfl rfl rfl h28 rfl ?_
      with_unfolding_all refine TX_cmp rfl rfl rfl ?_
      with_unfolding_all refine TX_nil ?_
      with_unfolding_all refine thenQ_normal ?_
      with_unfolding_all refine TE_cond rfl (fun hc37 => ?_) (fun hc37 => ?_)
      · skip
        replace hF := ite_t hc37 hF
        with_unfolding_all refine TE_seq ?_
        with_unfolding_all refine TE_seqY ?_
        have hM38 := MB_none s33
        with_unfolding_all refine TX_assign rfl ?_
        with_unfolding_all refine TX_nil ?_
        with_unfolding_all refine thenQ_normal ?_
        with_unfolding_all refine TE_ret ?_
        with_unfolding_all refine blockQ_ret ?_
        with_unfolding_all refine thenQ_ret ?_
        obtain rfl := some_s hF
        exact iterQ_ret (.inr <| ⟨_, rfl, rfl, (done_any (vs := [.bool (true)]) (.inr rfl) rfl (resR_tmp rfl resR_nil) ⟨rfl, hO34.ext⟩)⟩)
      · skip
        replace hF := ite_f hc37 hF
        with_unfolding_all refine TE_skip ?_
        with_unfolding_all refine blockQ_normal ?_
        with_unfolding_all refine thenQ_normal ?_
        with_unfolding_all refine TE_seqY ?_
        have hM39 := MB_none s33
        with_unfolding_all refine TX_ari rfl rfl rfl ?_
        with_unfolding_all refine TX_move rfl ?_
        with_unfolding_all refine TX_nil ?_
        obtain rfl := some_s hF
        exact iterQ_again ⟨s33, (hO34.sub 0 rfl), (Le_fr ⟨rfl, ⟨rfl, ⟨rfl, trivial⟩⟩⟩)⟩
    · skip
      replace hF := ite_f hc15 hF
      with_unfolding_all refine TE_exit ?_
      with_unfolding_all refine thenQ_exit ?_
      obtain rfl := some_s hF
      exact iterQ_exit (.inl <| ⟨_, rfl, rfl, s5, (hO6.sub 0 rfl), (Le_fr trivial)⟩)
  · skip
    rintro eq3 zq3 (⟨p7, rfl, rfl, s8, hO9, hz40⟩ | ⟨p10, rfl, rfl, hdp10⟩)
    · skip
      try dsimp only at hF
      with_unfolding_all refine blockQ_out ?_
      with_unfolding_all refine thenQ_normal ?_
      refine TE_pre hz40 ?_
      with_unfolding_all refine TE_seq ?_
      with_unfolding_all refine TE_seqY ?_
      have hM41 := MB_none s8
      with_unfolding_all refine TX_assign rfl ?_
      with_unfolding_all refine TX_nil ?_
      with_unfolding_all refine thenQ_normal ?_
      with_unfolding_all refine TE_ret ?_
      obtain rfl := some_s hF
      exact done_any (vs := [.bool (false)]) (.inr rfl) rfl (resR_tmp rfl resR_nil) ⟨rfl, hO9.ext⟩
    · skip
      try dsimp only at hF
      with_unfolding_all refine blockQ_ret ?_
      with_unfolding_all refine thenQ_ret ?_
      obtain rfl := some_s hF
      exact hdp10
end Go.Proofs.Ytihbdelgoapeoaa.K
