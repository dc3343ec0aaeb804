/- Walks. Printed. -/
import Derived.Test.YtihbdelgoapeoaaGW1
namespace Go.Proofs.Ytihbdelgoapeoaa.K
open Go Go.RowKit F
set_option maxRecDepth 100000
set_option maxHeartbeats 4000000
set_option linter.unusedVariables false
set_option linter.unusedSimpArgs false
theorem match_Not_ok {x0_ : (List match_Match)} {y : ((List match_Match) × Int)} (hF : F.match_Not x0_ = some y) {v0_ : AV} {σ : Mem} (h0_ : (RS e_match_Match) v0_ x0_)  :
    CallE Try.prog 20 [v0_] σ (fun v σ' => (R2 (RS e_match_Match) (eI .i64).rel) v y ∧ Ext σ σ') := by
  unfold F.match_Not at hF
  refine CallE_of Try.func20 rfl Try.ntmps20 (by simp) ?_
  have hO0 := Own.start σ
  with_unfolding_all refine TE_seq ?_
  with_unfolding_all refine TE_seqY ?_
  have hM1 := MB_none σ
  with_unfolding_all refine TX_assign rfl ?_
  with_unfolding_all refine TX_assign rfl ?_
  with_unfolding_all refine TX_nil ?_
  with_unfolding_all refine thenQ_normal ?_
  with_unfolding_all refine TE_seq ?_
  with_unfolding_all refine TE_seqY ?_
  have hM2 := MB_none σ
  with_unfolding_all refine TY_build [.nils, .nils] rfl rfl rfl (by with_unfolding_all exact Fill.nil _) (by with_unfolding_all rfl) ?_
  have h3 : All2 e_match_Match.rel ([.agg [.nils, .nils]] : List AV) ([(F.match_Match.mk [] [])] : (List match_Match)) := ⟨⟨.nils, .nils, rfl, (RS.nil e_match_Span), (RS.nil e_match_Span)⟩, trivial⟩
  with_unfolding_all refine TY_buildSlice rfl rfl rfl rfl rfl h3 rfl (by decide) (by with_unfolding_all exact Nat.le_of_ble_eq_true rfl) ?_
  have h4 : RS e_match_Match (.sl [.agg [.nils, .nils]] .full) ([(F.match_Match.mk [] [])] : (List match_Match)) := RS.of h3
  with_unfolding_all refine TX_assign rfl ?_
  with_unfolding_all refine TX_nil ?_
  with_unfolding_all refine thenQ_normal ?_
  with_unfolding_all refine TE_seq ?_
  with_unfolding_all refine TE_seq ?_
  with_unfolding_all refine TE_seqY ?_
  have hM5 := MB_none σ
  with_unfolding_all refine TX_move rfl ?_
  with_unfolding_all refine TY_len rfl rfl rfl rfl h0_ rfl ?_
  with_unfolding_all refine TX_move rfl ?_
  with_unfolding_all refine TX_nil ?_
  with_unfolding_all refine thenQ_normal ?_
  with_unfolding_all refine TE_block ?_
  obtain ⟨a18, h19, hF⟩ := bind_s hF
  refine TE_iter (f := F.match_Not_s1 x0_) (s0 := (([(F.match_Match.mk [] [])] : (List match_Match)), 0)) (a := a18) (fun (q6 : ((List match_Match) × Int)) z => ∃ (u8 : AV) (s10 : Mem), RS e_match_Match u8 q6.1 ∧ Own σ [] s10 [] ∧ Le z ⟨fr 60 [(4, u8), (15, v0_), (16, .int .i64 ((x0_.length : Int))), (17, .int .i64 (q6.2))], [], s10⟩) (fun (a : ((List match_Match) ⊕ ((List match_Match) × Int))) e z => (∃ p12 : (List match_Match), a = (.inl p12) ∧ e = .exit 0 ∧ ∃ (u13 : AV) (s15 : Mem), RS e_match_Match u13 p12 ∧ Own σ [] s15 [] ∧ Le z ⟨fr 60 [(4, u13)], [], s15⟩) ∨ (∃ p17 : ((List match_Match) × Int), a = (.inr (p17)) ∧ e = .ret ∧ doneQ Try.prog Try.f20 (fun v σ' => (R2 (RS e_match_Match) (eI .i64).rel) v p17 ∧ Ext σ σ') .ret z)) h19 ?_ ?_ ?_
  · skip
    exact ⟨(.sl [.agg [.nils, .nils]] .full), σ, h4, (hO0.sub 0 rfl), (Le_fr ⟨rfl, ⟨rfl, ⟨rfl, ⟨rfl, trivial⟩⟩⟩⟩)⟩
  · skip
    clear hF
    rintro q6 zq6 r7 ⟨u8, s10, h9, hO11, hz20⟩ hF
    unfold F.match_Not_s1 at hF
    refine TE_pre hz20 ?_
    with_unfolding_all refine TE_seq ?_
    with_unfolding_all refine TE_seqY ?_
    have hM21 := MB_none s10
    with_unfolding_all refine TX_cmp rfl rfl rfl ?_
    with_unfolding_all refine TX_nil ?_
    with_unfolding_all refine thenQ_normal ?_
    with_unfolding_all refine TE_seq ?_
    with_unfolding_all refine TE_cond rfl (fun hc22 => ?_) (fun hc22 => ?_)
    · skip
      replace hF := ite_t hc22 hF
      with_unfolding_all refine TE_skip ?_
      with_unfolding_all refine thenQ_normal ?_
      with_unfolding_all refine TE_seq ?_
      with_unfolding_all refine TE_block ?_
      with_unfolding_all refine TE_seq ?_
      obtain ⟨x23, h24, hF⟩ := bind_s hF
      with_unfolding_all refine TE_seqY ?_
      have hM29 := MB_none s10
      with_unfolding_all refine TY_idx (E := e_match_Match) rfl rfl rfl h0_ rfl h24 ?_
      intro u30 h31
      obtain ⟨u32, u34, rfl, h33, h35⟩ := h31
      with_unfolding_all refine TX_load_c rfl rfl ?_
      with_unfolding_all refine TY_alloc hO11 hM29 rfl rfl ?_
      rintro id36 s37 (hO38 : Own σ [] s37 [.obj id36 [.nils, .nils]]) hM39
      with_unfolding_all refine TY_store (v := .agg [u32, u34]) (vc := [u32, u34]) hO38 hM39 (MNe.none _) rfl rfl rfl rfl (by with_unfolding_all exact Nat.le_of_ble_eq_true rfl) (ones_cons (RS.one1 h33) (ones_cons (RS.one1 h35) ones_nil)) rfl ?_
      rintro s40 (hO41 : Own σ [] s40 [.obj id36 [u32, u34]]) hM42
      with_unfolding_all refine TX_nil ?_
      with_unfolding_all refine thenQ_normal ?_
      with_unfolding_all refine TE_seq ?_
      with_unfolding_all refine TE_seqY ?_
      have hM43 := MB_none s40
      with_unfolding_all refine TX_assign rfl ?_
      with_unfolding_all refine TX_nil ?_
      with_unfolding_all refine thenQ_normal ?_
      with_unfolding_all refine TE_seq ?_
      with_unfolding_all refine TE_seq ?_
      with_unfolding_all refine TE_seqY ?_
      have hM44 := MB_none s40
      with_unfolding_all refine TX_fieldAddr_p rfl rfl rfl ?_
      with_unfolding_all refine TX_load_p rfl (MC_none (hO41.obj 0 rfl)) rfl ?_
      with_unfolding_all refine TY_len rfl rfl rfl rfl h33 rfl ?_
      with_unfolding_all refine TX_move rfl ?_
      with_unfolding_all refine TX_nil ?_
      with_unfolding_all refine thenQ_normal ?_
      with_unfolding_all refine TE_block ?_
      obtain ⟨p51, h57, hF⟩ := bind_s hF
      refine TE_iter (f := F.match_Not_s2 x23) (s0 := ([], 0)) (a := p51) (fun (q45 : ((List match_Match) × Int)) z => ∃ (u47 : AV) (s49 : Mem), RS e_match_Match u47 q45.1 ∧ Own σ [] s49 [.buf u47, .obj id36 [u32, u34]] ∧ Le z ⟨fr 60 [(4, u8), (6, .ptr id36 0), (7, u47), (15, v0_), (16, .int .i64 ((x0_.length : Int))), (17, .int .i64 (q6.2)), (22, u32), (23, .int .i64 ((x23.In.length : Int))), (24, .int .i64 (q45.2))], [], s49⟩) (fun (p51 : (List match_Match)) e z => (e = .exit 2 ∧ ∃ (u52 : AV) (s54 : Mem), RS e_match_Match u52 p51 ∧ Own σ [] s54 [.buf u52, .obj id36 [u32, u34]] ∧ Le z ⟨fr 60 [(4, u8), (6, .ptr id36 0), (7, u52), (15, v0_), (16, .int .i64 ((x0_.length : Int))), (17, .int .i64 (q6.2))], [], s54⟩)) h57 ?_ ?_ ?_
      · skip
        have hO58 : Own σ [] s40 [.buf .nils, .obj id36 [u32, u34]] := hO41.buf0
        have hO59 : Own σ [] s40 [.obj id36 [u32, u34], .buf .nils] := hO58.front 1 rfl rfl
        have hO60 : Own σ [] s40 [.buf .nils, .obj id36 [u32, u34]] := hO59.front 1 rfl rfl
        exact ⟨.nils, s40, (RS.nil e_match_Match), (hO60.sub 2 rfl), (Le_fr ⟨rfl, ⟨rfl, ⟨rfl, ⟨rfl, ⟨rfl, ⟨rfl, ⟨rfl, ⟨rfl, ⟨rfl, trivial⟩⟩⟩⟩⟩⟩⟩⟩⟩)⟩
      · skip
        clear hF
        rintro q45 zq45 r46 ⟨u47, s49, h48, hO50, hz61⟩ hF
        unfold F.match_Not_s2 at hF
        refine TE_pre hz61 ?_
        with_unfolding_all refine TE_seq ?_
        with_unfolding_all refine TE_seqY ?_
        have hM62 := MB_none s49
        with_unfolding_all refine TX_cmp rfl rfl rfl ?_
        with_unfolding_all refine TX_nil ?_
        with_unfolding_all refine thenQ_normal ?_
        with_unfolding_all refine TE_seq ?_
        with_unfolding_all refine TE_cond rfl (fun hc63 => ?_) (fun hc63 => ?_)
        · skip
          replace hF := ite_t hc63 hF
          with_unfolding_all refine TE_skip ?_
          with_unfolding_all refine thenQ_normal ?_
          with_unfolding_all refine TE_seq ?_
          with_unfolding_all refine TE_block ?_
          with_unfolding_all refine TE_seq ?_
          obtain ⟨x64, h65, hF⟩ := bind_s hF
          with_unfolding_all refine TE_seqY ?_
          have hM66 := MB_none s49
          with_unfolding_all refine TY_idx (E := e_match_Span) rfl rfl rfl h33 rfl h65 ?_
          intro u67 h68
          obtain rfl := h68
          with_unfolding_all refine TX_load_c rfl rfl ?_
          with_unfolding_all refine TY_alloc hO50 hM66 rfl rfl ?_
          rintro id69 s70 (hO71 : Own σ [] s70 [.obj id69 [.int .i64 (0), .int .i64 (0), .int .i64 (0), .int .i64 (0)], .buf u47, .obj id36 [u32, u34]]) hM72
          with_unfolding_all refine TY_store (v := .agg [.int .i64 (x64.From), .int .i64 (x64.To), .int .i64 (x64.Part), .int .i64 (x64.Weight)]) (vc := [.int .i64 (x64.From), .int .i64 (x64.To), .int .i64 (x64.Part), .int .i64 (x64.Weight)]) hO71 hM72 (MNe.none _) rfl rfl rfl rfl (by with_unfolding_all exact Nat.le_of_ble_eq_true rfl) (ones_cons rfl (ones_cons rfl (ones_cons rfl (ones_cons rfl ones_nil)))) rfl ?_
          rintro s73 (hO74 : Own σ [] s73 [.obj id69 [.int .i64 (x64.From), .int .i64 (x64.To), .int .i64 (x64.Part), .int .i64 (x64.Weight)], .buf u47, .obj id36 [u32, u34]]) hM75
          with_unfolding_all refine TX_nil ?_
          with_unfolding_all refine thenQ_normal ?_
          obtain ⟨x76, h77, hF⟩ := bind_s hF
          with_unfolding_all refine TE_seqY ?_
          have hM78 := MB_none s73
          with_unfolding_all refine TX_move rfl ?_
          with_unfolding_all refine TX_load_p rfl (MC_none (hO74.obj 0 rfl)) rfl ?_
          have h79 : All2 e_match_Span.rel ([.agg [.int .i64 (x64.From), .int .i64 (x64.To), .int .i64 (x64.Part), .int .i64 (x64.Weight)]] : List AV) ([x64] : (List match_Span)) := ⟨rfl, trivial⟩
          with_unfolding_all refine TY_buildSlice rfl rfl rfl rfl rfl h79 rfl (by decide) (by with_unfolding_all exact Nat.le_of_ble_eq_true rfl) ?_
          have h80 : RS e_match_Span (.sl [.agg [.int .i64 (x64.From), .int .i64 (x64.To), .int .i64 (x64.Part), .int .i64 (x64.Weight)]] .full) ([x64] : (List match_Span)) := RS.of h79
          with_unfolding_all refine TY_build [.nils, (.sl [.agg [.int .i64 (x64.From), .int .i64 (x64.To), .int .i64 (x64.Part), .int .i64 (x64.Weight)]] .full)] rfl rfl rfl (by with_unfolding_all exact Fill.cons rfl (RS.cells h80) rfl (by with_unfolding_all exact Nat.le_of_ble_eq_true rfl) (Fill.nil _)) (by with_unfolding_all rfl) ?_
          have h81 : All2 e_match_Match.rel ([.agg [.nils, (.sl [.agg [.int .i64 (x64.From), .int .i64 (x64.To), .int .i64 (x64.Part), .int .i64 (x64.Weight)]] .full)]] : List AV) ([(F.match_Match.mk [] ([x64] : (List match_Span)))] : (List match_Match)) := ⟨⟨.nils, (.sl [.agg [.int .i64 (x64.From), .int .i64 (x64.To), .int .i64 (x64.Part), .int .i64 (x64.Weight)]] .full), rfl, (RS.nil e_match_Span), h80⟩, trivial⟩
          with_unfolding_all refine TY_buildSlice rfl rfl rfl rfl rfl h81 rfl (by decide) (by with_unfolding_all exact Nat.le_of_ble_eq_true rfl) ?_
          have h82 : RS e_match_Match (.sl [.agg [.nils, (.sl [.agg [.int .i64 (x64.From), .int .i64 (x64.To), .int .i64 (x64.Part), .int .i64 (x64.Weight)]] .full)]] .full) ([(F.match_Match.mk [] ([x64] : (List match_Span)))] : (List match_Match)) := RS.of h81
          have hO83 : Own σ [] s73 [.buf u47, .obj id69 [.int .i64 (x64.From), .int .i64 (x64.To), .int .i64 (x64.Part), .int .i64 (x64.Weight)], .obj id36 [u32, u34]] := hO74.front 1 rfl rfl
          with_unfolding_all refine TY_append appT22_22 hO83 hM78 rfl rfl rfl rfl h48 rfl h82 h77 ?_
          rintro u84 s86 (h85 : RS e_match_Match u84 x76) (hO87 : Own σ [] s86 [.buf u84, .obj id69 [.int .i64 (x64.From), .int .i64 (x64.To), .int .i64 (x64.Part), .int .i64 (x64.Weight)], .obj id36 [u32, u34]]) hM88
          with_unfolding_all refine TX_assign rfl ?_
          with_unfolding_all refine TX_nil ?_
          with_unfolding_all refine blockQ_normal ?_
          with_unfolding_all refine thenQ_normal ?_
          with_unfolding_all refine TE_seqY ?_
          have hM89 := MB_none s86
          with_unfolding_all refine TX_ari rfl rfl rfl ?_
          with_unfolding_all refine TX_move rfl ?_
          with_unfolding_all refine TX_nil ?_
          obtain rfl := some_s hF
          have hO90 : Own σ [] s86 [.obj id36 [u32, u34], .buf u84, .obj id69 [.int .i64 (x64.From), .int .i64 (x64.To), .int .i64 (x64.Part), .int .i64 (x64.Weight)]] := hO87.front 2 rfl rfl
          have hO91 : Own σ [] s86 [.buf u84, .obj id36 [u32, u34], .obj id69 [.int .i64 (x64.From), .int .i64 (x64.To), .int .i64 (x64.Part), .int .i64 (x64.Weight)]] := hO90.front 1 rfl rfl
          exact iterQ_again ⟨u84, s86, h85, (hO91.sub 2 rfl), (Le_fr ⟨rfl, ⟨rfl, ⟨rfl, ⟨rfl, ⟨rfl, ⟨rfl, ⟨rfl, ⟨rfl, ⟨rfl, trivial⟩⟩⟩⟩⟩⟩⟩⟩⟩)⟩
        · skip
          replace hF := ite_f hc63 hF
          with_unfolding_all refine TE_exit ?_
          with_unfolding_all refine thenQ_exit ?_
          obtain rfl := some_s hF
          have hO92 : Own σ [] s49 [.obj id36 [u32, u34], .buf u47] := hO50.front 1 rfl rfl
          have hO93 : Own σ [] s49 [.buf u47, .obj id36 [u32, u34]] := hO92.front 1 rfl rfl
          exact iterQ_exit (⟨rfl, u47, s49, h48, (hO93.sub 2 rfl), (Le_fr ⟨rfl, ⟨rfl, ⟨rfl, ⟨rfl, ⟨rfl, ⟨rfl, trivial⟩⟩⟩⟩⟩⟩)⟩)
      · skip
        rintro eq45 zq45 (⟨rfl, u52, s54, h53, hO55, hz94⟩)
        with_unfolding_all refine blockQ_out ?_
        with_unfolding_all refine thenQ_normal ?_
        refine TE_pre hz94 ?_
        with_unfolding_all refine TE_seq ?_
        with_unfolding_all refine TE_seq ?_
        with_unfolding_all refine TE_seqY ?_
        have hM95 := MB_none s54
        with_unfolding_all refine TX_fieldAddr_p rfl rfl rfl ?_
        with_unfolding_all refine TX_load_p rfl (MC_none (hO55.obj 1 rfl)) rfl ?_
        with_unfolding_all refine TY_len rfl rfl rfl rfl h35 rfl ?_
        with_unfolding_all refine TX_move rfl ?_
        with_unfolding_all refine TX_nil ?_
        with_unfolding_all refine thenQ_normal ?_
        with_unfolding_all refine TE_block ?_
        obtain ⟨p102, h108, hF⟩ := bind_s hF
        refine TE_iter (f := F.match_Not_s3 x23) (s0 := (p51, 0)) (a := p102) (fun (q96 : ((List match_Match) × Int)) z => ∃ (u98 : AV) (s100 : Mem), RS e_match_Match u98 q96.1 ∧ Own σ [] s100 [.buf u98, .obj id36 [u32, u34]] ∧ Le z ⟨fr 60 [(4, u8), (7, u98), (15, v0_), (16, .int .i64 ((x0_.length : Int))), (17, .int .i64 (q6.2)), (36, u34), (37, .int .i64 ((x23.Out.length : Int))), (38, .int .i64 (q96.2))], [], s100⟩) (fun (p102 : (List match_Match)) e z => (e = .exit 4 ∧ ∃ (u103 : AV) (s105 : Mem), RS e_match_Match u103 p102 ∧ Own σ [] s105 [.buf u103, .obj id36 [u32, u34]] ∧ Le z ⟨fr 60 [(4, u8), (7, u103), (15, v0_), (16, .int .i64 ((x0_.length : Int))), (17, .int .i64 (q6.2))], [], s105⟩)) h108 ?_ ?_ ?_
        · skip
          have hO109 : Own σ [] s54 [.obj id36 [u32, u34], .buf u52] := hO55.front 1 rfl rfl
          have hO110 : Own σ [] s54 [.buf u52, .obj id36 [u32, u34]] := hO109.front 1 rfl rfl
          exact ⟨u52, s54, h53, (hO110.sub 2 rfl), (Le_fr ⟨rfl, ⟨rfl, ⟨rfl, ⟨rfl, ⟨rfl, ⟨rfl, ⟨rfl, ⟨rfl, trivial⟩⟩⟩⟩⟩⟩⟩⟩)⟩
        · skip
          clear hF
          rintro q96 zq96 r97 ⟨u98, s100, h99, hO101, hz111⟩ hF
          unfold F.match_Not_s3 at hF
          refine TE_pre hz111 ?_
          with_unfolding_all refine TE_seq ?_
          with_unfolding_all refine TE_seqY ?_
          have hM112 := MB_none s100
          with_unfolding_all refine TX_cmp rfl rfl rfl ?_
          with_unfolding_all refine TX_nil ?_
          with_unfolding_all refine thenQ_normal ?_
          with_unfolding_all refine TE_seq ?_
          with_unfolding_all refine TE_cond rfl (fun hc113 => ?_) (fun hc113 => ?_)
          · skip
            replace hF := ite_t hc113 hF
            with_unfolding_all refine TE_skip ?_
            with_unfolding_all refine thenQ_normal ?_
            with_unfolding_all refine TE_seq ?_
            with_unfolding_all refine TE_block ?_
            with_unfolding_all refine TE_seq ?_
            obtain ⟨x114, h115, hF⟩ := bind_s hF
            with_unfolding_all refine TE_seqY ?_
            have hM116 := MB_none s100
            with_unfolding_all refine TY_idx (E := e_match_Span) rfl rfl rfl h35 rfl h115 ?_
            intro u117 h118
            obtain rfl := h118
            with_unfolding_all refine TX_load_c rfl rfl ?_
            with_unfolding_all refine TY_alloc hO101 hM116 rfl rfl ?_
            rintro id119 s120 (hO121 : Own σ [] s120 [.obj id119 [.int .i64 (0), .int .i64 (0), .int .i64 (0), .int .i64 (0)], .buf u98, .obj id36 [u32, u34]]) hM122
            with_unfolding_all refine TY_store (v := .agg [.int .i64 (x114.From), .int .i64 (x114.To), .int .i64 (x114.Part), .int .i64 (x114.Weight)]) (vc := [.int .i64 (x114.From), .int .i64 (x114.To), .int .i64 (x114.Part), .int .i64 (x114.Weight)]) hO121 hM122 (MNe.none _) rfl rfl rfl rfl (by with_unfolding_all exact Nat.le_of_ble_eq_true rfl) (ones_cons rfl (ones_cons rfl (ones_cons rfl (ones_cons rfl ones_nil)))) rfl ?_
            rintro s123 (hO124 : Own σ [] s123 [.obj id119 [.int .i64 (x114.From), .int .i64 (x114.To), .int .i64 (x114.Part), .int .i64 (x114.Weight)], .buf u98, .obj id36 [u32, u34]]) hM125
            with_unfolding_all refine TX_nil ?_
            with_unfolding_all refine thenQ_normal ?_
            obtain ⟨x126, h127, hF⟩ := bind_s hF
            with_unfolding_all refine TE_seqY ?_
            have hM128 := MB_none s123
            with_unfolding_all refine TX_move rfl ?_
            with_unfolding_all refine TX_load_p rfl (MC_none (hO124.obj 0 rfl)) rfl ?_
            have h129 : All2 e_match_Span.rel ([.agg [.int .i64 (x114.From), .int .i64 (x114.To), .int .i64 (x114.Part), .int .i64 (x114.Weight)]] : List AV) ([x114] : (List match_Span)) := ⟨rfl, trivial⟩
            with_unfolding_all refine TY_buildSlice rfl rfl rfl rfl rfl h129 rfl (by decide) (by with_unfolding_all exact Nat.le_of_ble_eq_true rfl) ?_
            have h130 : RS e_match_Span (.sl [.agg [.int .i64 (x114.From), .int .i64 (x114.To), .int .i64 (x114.Part), .int .i64 (x114.Weight)]] .full) ([x114] : (List match_Span)) := RS.of h129
            with_unfolding_all refine TY_build [(.sl [.agg [.int .i64 (x114.From), .int .i64 (x114.To), .int .i64 (x114.Part), .int .i64 (x114.Weight)]] .full), .nils] rfl rfl rfl (by with_unfolding_all exact Fill.cons rfl (RS.cells h130) rfl (by with_unfolding_all exact Nat.le_of_ble_eq_true rfl) (Fill.nil _)) (by with_unfolding_all rfl) ?_
            have h131 : All2 e_match_Match.rel ([.agg [(.sl [.agg [.int .i64 (x114.From), .int .i64 (x114.To), .int .i64 (x114.Part), .int .i64 (x114.Weight)]] .full), .nils]] : List AV) ([(F.match_Match.mk ([x114] : (List match_Span)) [])] : (List match_Match)) := ⟨⟨(.sl [.agg [.int .i64 (x114.From), .int .i64 (x114.To), .int .i64 (x114.Part), .int .i64 (x114.Weight)]] .full), .nils, rfl, h130, (RS.nil e_match_Span)⟩, trivial⟩
            with_unfolding_all refine TY_buildSlice rfl rfl rfl rfl rfl h131 rfl (by decide) (by with_unfolding_all exact Nat.le_of_ble_eq_true rfl) ?_
            have h132 : RS e_match_Match (.sl [.agg [(.sl [.agg [.int .i64 (x114.From), .int .i64 (x114.To), .int .i64 (x114.Part), .int .i64 (x114.Weight)]] .full), .nils]] .full) ([(F.match_Match.mk ([x114] : (List match_Span)) [])] : (List match_Match)) := RS.of h131
            have hO133 : Own σ [] s123 [.buf u98, .obj id119 [.int .i64 (x114.From), .int .i64 (x114.To), .int .i64 (x114.Part), .int .i64 (x114.Weight)], .obj id36 [u32, u34]] := hO124.front 1 rfl rfl
            with_unfolding_all refine TY_append appT22_22 hO133 hM128 rfl rfl rfl rfl h99 rfl h132 h127 ?_
            rintro u134 s136 (h135 : RS e_match_Match u134 x126) (hO137 : Own σ [] s136 [.buf u134, .obj id119 [.int .i64 (x114.From), .int .i64 (x114.To), .int .i64 (x114.Part), .int .i64 (x114.Weight)], .obj id36 [u32, u34]]) hM138
            with_unfolding_all refine TX_assign rfl ?_
            with_unfolding_all refine TX_nil ?_
            with_unfolding_all refine blockQ_normal ?_
            with_unfolding_all refine thenQ_normal ?_
            with_unfolding_all refine TE_seqY ?_
            have hM139 := MB_none s136
            with_unfolding_all refine TX_ari rfl rfl rfl ?_
            with_unfolding_all refine TX_move rfl ?_
            with_unfolding_all refine TX_nil ?_
            obtain rfl := some_s hF
            have hO140 : Own σ [] s136 [.obj id36 [u32, u34], .buf u134, .obj id119 [.int .i64 (x114.From), .int .i64 (x114.To), .int .i64 (x114.Part), .int .i64 (x114.Weight)]] := hO137.front 2 rfl rfl
            have hO141 : Own σ [] s136 [.buf u134, .obj id36 [u32, u34], .obj id119 [.int .i64 (x114.From), .int .i64 (x114.To), .int .i64 (x114.Part), .int .i64 (x114.Weight)]] := hO140.front 1 rfl rfl
            exact iterQ_again ⟨u134, s136, h135, (hO141.sub 2 rfl), (Le_fr ⟨rfl, ⟨rfl, ⟨rfl, ⟨rfl, ⟨rfl, ⟨rfl, ⟨rfl, ⟨rfl, trivial⟩⟩⟩⟩⟩⟩⟩⟩)⟩
          · skip
            replace hF := ite_f hc113 hF
            with_unfolding_all refine TE_exit ?_
            with_unfolding_all refine thenQ_exit ?_
            obtain rfl := some_s hF
            have hO142 : Own σ [] s100 [.obj id36 [u32, u34], .buf u98] := hO101.front 1 rfl rfl
            have hO143 : Own σ [] s100 [.buf u98, .obj id36 [u32, u34]] := hO142.front 1 rfl rfl
            exact iterQ_exit (⟨rfl, u98, s100, h99, (hO143.sub 2 rfl), (Le_fr ⟨rfl, ⟨rfl, ⟨rfl, ⟨rfl, ⟨rfl, trivial⟩⟩⟩⟩⟩)⟩)
        · skip
          rintro eq96 zq96 (⟨rfl, u103, s105, h104, hO106, hz144⟩)
          with_unfolding_all refine blockQ_out ?_
          with_unfolding_all refine thenQ_normal ?_
          refine TE_pre hz144 ?_
          with_unfolding_all refine TE_seq ?_
          with_unfolding_all refine TE_seqY ?_
          have hM145 := MB_none s105
          with_unfolding_all refine TX_assign rfl ?_
          with_unfolding_all refine TX_nil ?_
          with_unfolding_all refine thenQ_normal ?_
          with_unfolding_all refine TE_seq ?_
          obtain ⟨x146, h147, hF⟩ := bind_s hF
          with_unfolding_all refine TE_seqY ?_
          have hM148 := MB_none s105
          with_unfolding_all refine TX_move rfl ?_
          with_unfolding_all refine TX_move rfl ?_
          have hc149 : CallE Try.prog 19 [u8, u103] s105 _ := match_And_ok h147 h9 h104
          with_unfolding_all refine TY_call hM148 rfl en19 hc149 ?_
          intro v150 s154 hv151 hX152 hM153
          have hO155 := hO106.ext_call hX152
          obtain ⟨v156, v157, rfl, h158, h159⟩ := hv151
          obtain rfl := h159
          with_unfolding_all refine TX_move rfl ?_
          with_unfolding_all refine TX_extract rfl rfl ?_
          with_unfolding_all refine TX_extract rfl rfl ?_
          with_unfolding_all refine TX_assign rfl ?_
          with_unfolding_all refine TX_assign rfl ?_
          with_unfolding_all refine TX_nil ?_
          with_unfolding_all refine thenQ_normal ?_
          with_unfolding_all refine TE_seq ?_
          with_unfolding_all refine TE_seqY ?_
          have hM160 := MB_none s154
          with_unfolding_all refine TX_move rfl ?_
          with_unfolding_all refine TX_cmp rfl rfl rfl ?_
          with_unfolding_all refine TX_nil ?_
          with_unfolding_all refine thenQ_normal ?_
          with_unfolding_all refine TE_cond rfl (fun hc161 => ?_) (fun hc161 => ?_)
          · skip
            replace hF := ite_t hc161 hF
            with_unfolding_all refine TE_seq ?_
            with_unfolding_all refine TE_seqY ?_
            have hM162 := MB_none s154
            with_unfolding_all refine TX_move rfl ?_
            with_unfolding_all refine TX_assign rfl ?_
            with_unfolding_all refine TX_assign rfl ?_
            with_unfolding_all refine TX_nil ?_
            with_unfolding_all refine thenQ_normal ?_
            with_unfolding_all refine TE_ret ?_
            with_unfolding_all refine blockQ_ret ?_
            with_unfolding_all refine thenQ_ret ?_
            obtain rfl := some_s hF
            exact iterQ_ret (.inr <| ⟨_, rfl, rfl, (done_any (vs := [.nils, .int .i64 (x146.2)]) (.inr rfl) rfl (resR_tmp rfl (resR_tmp rfl resR_nil)) ⟨⟨_, _, rfl, (RS.nil e_match_Match), rfl⟩, hO155.ext⟩)⟩)
          · skip
            replace hF := ite_f hc161 hF
            with_unfolding_all refine TE_skip ?_
            with_unfolding_all refine blockQ_normal ?_
            with_unfolding_all refine thenQ_normal ?_
            with_unfolding_all refine TE_seqY ?_
            have hM163 := MB_none s154
            with_unfolding_all refine TX_ari rfl rfl rfl ?_
            with_unfolding_all refine TX_move rfl ?_
            with_unfolding_all refine TX_nil ?_
            obtain rfl := some_s hF
            exact iterQ_again ⟨v156, s154, h158, (hO155.sub 0 rfl), (Le_fr ⟨rfl, ⟨rfl, ⟨rfl, ⟨rfl, trivial⟩⟩⟩⟩)⟩
    · skip
      replace hF := ite_f hc22 hF
      with_unfolding_all refine TE_exit ?_
      with_unfolding_all refine thenQ_exit ?_
      obtain rfl := some_s hF
      exact iterQ_exit (.inl <| ⟨_, rfl, rfl, u8, s10, h9, (hO11.sub 0 rfl), (Le_fr ⟨rfl, trivial⟩)⟩)
  · skip
    rintro eq6 zq6 (⟨p12, rfl, rfl, u13, s15, h14, hO16, hz164⟩ | ⟨p17, rfl, rfl, hdp17⟩)
    · skip
      try dsimp only at hF
      with_unfolding_all refine blockQ_out ?_
      with_unfolding_all refine thenQ_normal ?_
      refine TE_pre hz164 ?_
      with_unfolding_all refine TE_seq ?_
      with_unfolding_all refine TE_seqY ?_
      have hM165 := MB_none s15
      with_unfolding_all refine TX_move rfl ?_
      with_unfolding_all refine TX_assign rfl ?_
      with_unfolding_all refine TX_assign rfl ?_
      with_unfolding_all refine TX_nil ?_
      with_unfolding_all refine thenQ_normal ?_
      with_unfolding_all refine TE_ret ?_
      obtain rfl := some_s hF
      exact done_any (vs := [u13, .int .i64 (0)]) (.inr rfl) rfl (resR_tmp rfl (resR_tmp rfl resR_nil)) ⟨⟨_, _, rfl, h14, rfl⟩, hO16.ext⟩
    · skip
      try dsimp only at hF
      with_unfolding_all refine blockQ_ret ?_
      with_unfolding_all refine thenQ_ret ?_
      obtain rfl := some_s hF
      exact hdp17
theorem slices_IndexFunc_match_Match_match_Match_ok {x0_ : (List match_Match)} {x1_ : (match_Match → Option Bool)} {y : Int} (hF : F.slices_IndexFunc_match_Match_match_Match x0_ x1_ = some y) {v0_ : AV} {v1_ : AV} {σ : Mem} (h0_ : (RS e_match_Match) v0_ x0_) (h1_ : FnOK1 Try.prog v1_ σ e_match_Match.rel eB.rel x1_)  :
    CallE Try.prog 93 [v0_, v1_] σ (fun v σ' => (eI .i64).rel v y ∧ Ext σ σ') := by
  unfold F.slices_IndexFunc_match_Match_match_Match at hF
  have h1 := h1_
  obtain ⟨g2, fs3, cs4, rfl, hen5, hcall6⟩ := h1_
  refine CallE_of Try.func93 rfl Try.ntmps93 (by simp) ?_
  have hO0 := Own.start σ
  with_unfolding_all refine TE_seq ?_
  with_unfolding_all refine TE_seqY ?_
  have hM7 := MB_none σ
  with_unfolding_all refine TX_assign rfl ?_
  with_unfolding_all refine TX_nil ?_
  with_unfolding_all refine thenQ_normal ?_
  with_unfolding_all refine TE_seq ?_
  with_unfolding_all refine TE_seq ?_
  with_unfolding_all refine TE_seqY ?_
  have hM8 := MB_none σ
  with_unfolding_all refine TX_move rfl ?_
  with_unfolding_all refine TY_len rfl rfl rfl rfl h0_ rfl ?_
  with_unfolding_all refine TX_move rfl ?_
  with_unfolding_all refine TX_nil ?_
  with_unfolding_all refine thenQ_normal ?_
  with_unfolding_all refine TE_block ?_
  obtain ⟨a17, h18, hF⟩ := bind_s hF
  refine TE_iter (f := F.slices_IndexFunc_match_Match_match_Match_s1 x0_ x1_) (s0 := 0) (a := a17) (fun (q9 : Int) z => ∃ (s11 : Mem), Own σ [] s11 [] ∧ Le z ⟨fr 19 [(0, v0_), (1, (.fn (.func g2) fs3 cs4)), (7, .int .i64 ((x0_.length : Int))), (8, .int .i64 (q9))], [], s11⟩) (fun (a : (Unit ⊕ Int)) e z => (∃ p13 : Unit, a = (.inl p13) ∧ e = .exit 0 ∧ ∃ (s14 : Mem), Own σ [] s14 [] ∧ Le z ⟨fr 19 [], [], s14⟩) ∨ (∃ p16 : Int, a = (.inr (p16)) ∧ e = .ret ∧ doneQ Try.prog Try.f93 (fun v σ' => (eI .i64).rel v p16 ∧ Ext σ σ') .ret z)) h18 ?_ ?_ ?_
  · skip
    exact ⟨σ, (hO0.sub 0 rfl), (Le_fr ⟨rfl, ⟨rfl, ⟨rfl, ⟨rfl, trivial⟩⟩⟩⟩)⟩
  · skip
    clear hF
    rintro q9 zq9 r10 ⟨s11, hO12, hz19⟩ hF
    unfold F.slices_IndexFunc_match_Match_match_Match_s1 at hF
    refine TE_pre hz19 ?_
    with_unfolding_all refine TE_seq ?_
    with_unfolding_all refine TE_seqY ?_
    have hM20 := MB_none s11
    with_unfolding_all refine TX_cmp rfl rfl rfl ?_
    with_unfolding_all refine TX_nil ?_
    with_unfolding_all refine thenQ_normal ?_
    with_unfolding_all refine TE_seq ?_
    with_unfolding_all refine TE_cond rfl (fun hc21 => ?_) (fun hc21 => ?_)
    · skip
      replace hF := ite_t hc21 hF
      with_unfolding_all refine TE_skip ?_
      with_unfolding_all refine thenQ_normal ?_
      with_unfolding_all refine TE_seq ?_
      with_unfolding_all refine TE_block ?_
      with_unfolding_all refine TE_seq ?_
      with_unfolding_all refine TE_seqY ?_
      have hM22 := MB_none s11
      with_unfolding_all refine TX_move rfl ?_
      with_unfolding_all refine TX_assign rfl ?_
      with_unfolding_all refine TX_nil ?_
      with_unfolding_all refine thenQ_normal ?_
      with_unfolding_all refine TE_seq ?_
      obtain ⟨x23, h24, hF⟩ := bind_s hF
      obtain ⟨x29, h30, hF⟩ := bind_s hF
      with_unfolding_all refine TE_seqY ?_
      have hM31 := MB_none s11
      with_unfolding_all refine TX_move rfl ?_
      with_unfolding_all refine TX_move rfl ?_
      with_unfolding_all refine TX_move rfl ?_
      with_unfolding_all refine TY_idx (E := e_match_Match) rfl rfl rfl h0_ rfl h24 ?_
      intro u32 h33
      obtain ⟨u34, u36, rfl, h35, h37⟩ := h33
      with_unfolding_all refine TX_load_c rfl rfl ?_
      have hc38 : CallE Try.prog g2 (fs3 ++ [.agg [u34, u36]] ++ cs4) s11 _ := hcall6 _ hO12.ext _ _ _ ⟨u34, u36, rfl, h35, h37⟩ h30
      with_unfolding_all refine TY_call hM31 rfl hen5 hc38 ?_
      intro v39 s43 hv40 hX41 hM42
      have hO44 := hO12.ext_call hX41
      obtain rfl := hv40
      with_unfolding_all refine TX_nil ?_
      with_unfolding_all refine thenQ_normal ?_
      with_unfolding_all refine TE_cond rfl (fun hc45 => ?_) (fun hc45 => ?_)
      · skip
        replace hF := ite_t hc45 hF
        with_unfolding_all refine TE_seq ?_
        with_unfolding_all refine TE_seqY ?_
        have hM46 := MB_none s43
        with_unfolding_all refine TX_move rfl ?_
        with_unfolding_all refine TX_assign rfl ?_
        with_unfolding_all refine TX_nil ?_
        with_unfolding_all refine thenQ_normal ?_
        with_unfolding_all refine TE_ret ?_
        with_unfolding_all refine blockQ_ret ?_
        with_unfolding_all refine thenQ_ret ?_
        obtain rfl := some_s hF
        exact iterQ_ret (.inr <| ⟨_, rfl, rfl, (done_any (vs := [.int .i64 (q9)]) (.inr rfl) rfl (resR_tmp rfl resR_nil) ⟨rfl, hO44.ext⟩)⟩)
      · skip
        replace hF := ite_f hc45 hF
        with_unfolding_all refine TE_skip ?_
        with_unfolding_all refine blockQ_normal ?_
        with_unfolding_all refine thenQ_normal ?_
        with_unfolding_all refine TE_seqY ?_
        have hM47 := MB_none s43
        with_unfolding_all refine TX_ari rfl rfl rfl ?_
        with_unfolding_all refine TX_move rfl ?_
        with_unfolding_all refine TX_nil ?_
        obtain rfl := some_s hF
        exact iterQ_again ⟨s43, (hO44.sub 0 rfl), (Le_fr ⟨rfl, ⟨rfl, ⟨rfl, ⟨rfl, trivial⟩⟩⟩⟩)⟩
    · skip
      replace hF := ite_f hc21 hF
      with_unfolding_all refine TE_exit ?_
      with_unfolding_all refine thenQ_exit ?_
      obtain rfl := some_s hF
      exact iterQ_exit (.inl <| ⟨_, rfl, rfl, s11, (hO12.sub 0 rfl), (Le_fr trivial)⟩)
  · skip
    rintro eq9 zq9 (⟨p13, rfl, rfl, s14, hO15, hz48⟩ | ⟨p16, rfl, rfl, hdp16⟩)
    · skip
      try dsimp only at hF
      with_unfolding_all refine blockQ_out ?_
      with_unfolding_all refine thenQ_normal ?_
      refine TE_pre hz48 ?_
      with_unfolding_all refine TE_seq ?_
      with_unfolding_all refine TE_seqY ?_
      have hM49 := MB_none s14
      with_unfolding_all refine TX_assign rfl ?_
      with_unfolding_all refine TX_nil ?_
      with_unfolding_all refine thenQ_normal ?_
      with_unfolding_all refine TE_ret ?_
      obtain rfl := some_s hF
      exact done_any (vs := [.int .i64 ((-1))]) (.inr rfl) rfl (resR_tmp rfl resR_nil) ⟨rfl, hO15.ext⟩
    · skip
      try dsimp only at hF
      with_unfolding_all refine blockQ_ret ?_
      with_unfolding_all refine thenQ_ret ?_
      obtain rfl := some_s hF
      exact hdp16
theorem slices_ContainsFunc_match_Match_match_Match_ok {x0_ : (List match_Match)} {x1_ : (match_Match → Option Bool)} {y : Bool} (hF : F.slices_ContainsFunc_match_Match_match_Match x0_ x1_ = some y) {v0_ : AV} {v1_ : AV} {σ : Mem} (h0_ : (RS e_match_Match) v0_ x0_) (h1_ : FnOK1 Try.prog v1_ σ e_match_Match.rel eB.rel x1_)  :
    CallE Try.prog 55 [v0_, v1_] σ (fun v σ' => eB.rel v y ∧ Ext σ σ') := by
  unfold F.slices_ContainsFunc_match_Match_match_Match at hF
  have h1 := h1_
  obtain ⟨g2, fs3, cs4, rfl, hen5, hcall6⟩ := h1_
  refine CallE_of Try.func55 rfl Try.ntmps55 (by simp) ?_
  have hO0 := Own.start σ
  with_unfolding_all refine TE_seq ?_
  with_unfolding_all refine TE_seqY ?_
  have hM7 := MB_none σ
  with_unfolding_all refine TX_assign rfl ?_
  with_unfolding_all refine TX_nil ?_
  with_unfolding_all refine thenQ_normal ?_
  with_unfolding_all refine TE_seq ?_
  obtain ⟨x8, h9, hF⟩ := bind_s hF
  with_unfolding_all refine TE_seqY ?_
  have hM10 := MB_none σ
  with_unfolding_all refine TX_move rfl ?_
  with_unfolding_all refine TX_move rfl ?_
  have hc11 : CallE Try.prog 93 [v0_, (.fn (.func g2) fs3 cs4)] σ _ := slices_IndexFunc_match_Match_match_Match_ok h9 h0_ (FnOK1.mono h1 hO0.ext)
  with_unfolding_all refine TY_call hM10 rfl en93 hc11 ?_
  intro v12 s16 hv13 hX14 hM15
  have hO17 := hO0.ext_call hX14
  obtain rfl := hv13
  with_unfolding_all refine TX_cmp rfl rfl rfl ?_
  with_unfolding_all refine TX_assign rfl ?_
  with_unfolding_all refine TX_nil ?_
  with_unfolding_all refine thenQ_normal ?_
  with_unfolding_all refine TE_ret ?_
  obtain rfl := some_s hF
  exact done_any (vs := [.bool ((decide (x8 ≥ 0)))]) (.inr rfl) rfl (resR_tmp rfl resR_nil) ⟨rfl, hO17.ext⟩
theorem match_Holds_1_ok {x0_ : match_Match} {y : Bool} (hF : F.match_Holds_1 x0_ = some y) {v0_ : AV} {σ : Mem} (h0_ : e_match_Match.rel v0_ x0_)  :
    CallE Try.prog 65 [v0_] σ (fun v σ' => eB.rel v y ∧ Ext σ σ') := by
  unfold F.match_Holds_1 at hF
  obtain ⟨u1, u3, rfl, h2, h4⟩ := h0_
  refine CallE_of Try.func65 rfl Try.ntmps65 (by simp) ?_
  have hO0 := Own.start σ
  with_unfolding_all refine TE_seq ?_
  with_unfolding_all refine TE_seqY ?_
  have hM5 := MB_none σ
  with_unfolding_all refine TY_box hO0 hM5 rfl rfl ?_
  rintro id6 s7 (hO8 : Own σ [] s7 [.obj id6 [u1, u3]]) hM9
  with_unfolding_all refine TX_assign rfl ?_
  with_unfolding_all refine TX_nil ?_
  with_unfolding_all refine thenQ_normal ?_
  with_unfolding_all refine TE_seq ?_
  with_unfolding_all refine TE_seqY ?_
  have hM10 := MB_none s7
  with_unfolding_all refine TX_fieldAddr_p rfl rfl rfl ?_
  with_unfolding_all refine TX_load_p rfl (MC_none (hO8.obj 0 rfl)) rfl ?_
  with_unfolding_all refine TY_len rfl rfl rfl rfl h4 rfl ?_
  with_unfolding_all refine TX_cmp rfl rfl rfl ?_
  with_unfolding_all refine TX_assign rfl ?_
  with_unfolding_all refine TX_nil ?_
  with_unfolding_all refine thenQ_normal ?_
  with_unfolding_all refine TE_ret ?_
  obtain rfl := some_s hF
  exact done_any (vs := [.bool (((x0_.Out.length : Int) == 0))]) (.inr rfl) rfl (resR_tmp rfl resR_nil) ⟨rfl, hO8.ext⟩
theorem match_Holds_ok {x0_ : (List match_Match)} {y : Bool} (hF : F.match_Holds x0_ = some y) {v0_ : AV} {σ : Mem} (h0_ : (RS e_match_Match) v0_ x0_)  :
    CallE Try.prog 24 [v0_] σ (fun v σ' => eB.rel v y ∧ Ext σ σ') := by
  unfold F.match_Holds at hF
  refine CallE_of Try.func24 rfl Try.ntmps24 (by simp) ?_
  have hO0 := Own.start σ
  with_unfolding_all refine TE_seq ?_
  with_unfolding_all refine TE_seqY ?_
  have hM1 := MB_none σ
  with_unfolding_all refine TX_assign rfl ?_
  with_unfolding_all refine TX_nil ?_
  with_unfolding_all refine thenQ_normal ?_
  with_unfolding_all refine TE_seq ?_
  obtain ⟨x2, h3, hF⟩ := bind_s hF
  with_unfolding_all refine TE_seqY ?_
  have hM4 := MB_none σ
  with_unfolding_all refine TX_move rfl ?_
  have hc11 : CallE Try.prog 55 [v0_, .fn (.func 65) [] []] σ _ := slices_ContainsFunc_match_Match_match_Match_ok h3 h0_ ⟨65, [], [], rfl, en65, fun _ hX5 v6 x7 y9 h8 hy10 => match_Holds_1_ok hy10 h8 ⟩
  with_unfolding_all refine TY_call hM4 rfl en55 hc11 ?_
  intro v12 s16 hv13 hX14 hM15
  have hO17 := hO0.ext_call hX14
  obtain rfl := hv13
  with_unfolding_all refine TX_assign rfl ?_
  with_unfolding_all refine TX_nil ?_
  with_unfolding_all refine thenQ_normal ?_
  with_unfolding_all refine TE_ret ?_
  obtain rfl := some_s hF
  exact done_any (vs := [.bool (x2)]) (.inr rfl) rfl (resR_tmp rfl resR_nil) ⟨rfl, hO17.ext⟩
theorem law12_head_ok  {y : Bool} (hF : F.law12_head  = some y)  {σ : Mem}   :
    CallE Try.prog 14 [] σ (fun v σ' => eB.rel v y ∧ Ext σ σ') := by
  unfold F.law12_head at hF
  refine CallE_of Try.func14 rfl Try.ntmps14 (by simp) ?_
  have hO0 := Own.start σ
  with_unfolding_all refine TE_seq ?_
  with_unfolding_all refine TE_seqY ?_
  have hM1 := MB_none σ
  with_unfolding_all refine TX_assign rfl ?_
  with_unfolding_all refine TX_nil ?_
  with_unfolding_all refine thenQ_normal ?_
  with_unfolding_all refine TE_seq ?_
  obtain ⟨x2, h3, hF⟩ := bind_s hF
  with_unfolding_all refine TE_seqY ?_
  have hM4 := MB_none σ
  with_unfolding_all refine TY_build [.int .i64 (1), .int .i64 (1), .int .i64 (0), .int .i64 (0)] rfl rfl rfl (by with_unfolding_all exact Fill.cons rfl rfl rfl (by with_unfolding_all exact Nat.le_of_ble_eq_true rfl) (Fill.cons rfl rfl rfl (by with_unfolding_all exact Nat.le_of_ble_eq_true rfl) (Fill.nil _))) (by with_unfolding_all rfl) ?_
  with_unfolding_all refine TY_build [.int .i64 (2), .int .i64 (3), .int .i64 (0), .int .i64 (0)] rfl rfl rfl (by with_unfolding_all exact Fill.cons rfl rfl rfl (by with_unfolding_all exact Nat.le_of_ble_eq_true rfl) (Fill.cons rfl rfl rfl (by with_unfolding_all exact Nat.le_of_ble_eq_true rfl) (Fill.nil _))) (by with_unfolding_all rfl) ?_
  have h5 : All2 e_match_Span.rel ([.agg [.int .i64 (1), .int .i64 (1), .int .i64 (0), .int .i64 (0)], .agg [.int .i64 (2), .int .i64 (3), .int .i64 (0), .int .i64 (0)]] : List AV) ([(F.match_Span.mk 1 1 0 0), (F.match_Span.mk 2 3 0 0)] : (List match_Span)) := ⟨rfl, ⟨rfl, trivial⟩⟩
  with_unfolding_all refine TY_buildSlice rfl rfl rfl rfl rfl h5 rfl (by decide) (by with_unfolding_all exact Nat.le_of_ble_eq_true rfl) ?_
  have h6 : RS e_match_Span (.sl [.agg [.int .i64 (1), .int .i64 (1), .int .i64 (0), .int .i64 (0)], .agg [.int .i64 (2), .int .i64 (3), .int .i64 (0), .int .i64 (0)]] .full) ([(F.match_Span.mk 1 1 0 0), (F.match_Span.mk 2 3 0 0)] : (List match_Span)) := RS.of h5
  have hc7 : CallE Try.prog 26 [(.sl [.agg [.int .i64 (1), .int .i64 (1), .int .i64 (0), .int .i64 (0)], .agg [.int .i64 (2), .int .i64 (3), .int .i64 (0), .int .i64 (0)]] .full)] σ _ := match_Of_ok h3 h6
  with_unfolding_all refine TY_call hM4 rfl en26 hc7 ?_
  intro v8 s12 hv9 hX10 hM11
  have hO13 := hO0.ext_call hX10
  with_unfolding_all refine TX_assign rfl ?_
  with_unfolding_all refine TX_nil ?_
  with_unfolding_all refine thenQ_normal ?_
  with_unfolding_all refine TE_seq ?_
  obtain ⟨x14, h15, hF⟩ := bind_s hF
  with_unfolding_all refine TE_seqY ?_
  have hM16 := MB_none s12
  with_unfolding_all refine TX_move rfl ?_
  have hc17 : CallE Try.prog 20 [v8] s12 _ := match_Not_ok h15 hv9
  with_unfolding_all refine TY_call hM16 rfl en20 hc17 ?_
  intro v18 s22 hv19 hX20 hM21
  have hO23 := hO13.ext_call hX20
  obtain ⟨v24, v25, rfl, h26, h27⟩ := hv19
  obtain rfl := h27
  with_unfolding_all refine TX_move rfl ?_
  with_unfolding_all refine TX_extract rfl rfl ?_
  with_unfolding_all refine TX_extract rfl rfl ?_
  with_unfolding_all refine TX_assign rfl ?_
  with_unfolding_all refine TX_assign rfl ?_
  with_unfolding_all refine TX_nil ?_
  with_unfolding_all refine thenQ_normal ?_
  with_unfolding_all refine TE_seq ?_
  obtain ⟨r28, h29, hF⟩ := bind_s hF
  obtain ⟨r36, h37, hF⟩ := bind_s hF
  obtain ⟨r44, h45, hF⟩ := bind_s hF
  obtain ⟨r54, h55, hF⟩ := bind_s hF
  obtain ⟨r58, h59, hF⟩ := bind_s hF
  obtain ⟨r62, h63, hF⟩ := bind_s hF
  with_unfolding_all refine TE_seqY ?_
  have hM64 := MB_none s22
  with_unfolding_all refine TX_move rfl ?_
  with_unfolding_all refine TX_cmp rfl rfl rfl ?_
  with_unfolding_all refine TX_move rfl ?_
  with_unfolding_all refine TX_guard_t rfl rfl (fun hc65 => ?_) (fun hc65 => ?_)
  · skip
    replace h29 := and_t hc65 h29
    with_unfolding_all refine TX_move rfl ?_
    with_unfolding_all refine TX_guard_yes rfl rfl hc65 ?_
    with_unfolding_all refine TY_len rfl rfl rfl rfl h26 rfl ?_
    with_unfolding_all refine TX_guard_yes rfl rfl hc65 ?_
    with_unfolding_all refine TX_cmp rfl rfl rfl ?_
    with_unfolding_all refine TX_pick_t rfl hc65 rfl ?_
    obtain rfl := some_s h29
    with_unfolding_all refine TX_move rfl ?_
    with_unfolding_all refine TX_guard_t rfl rfl (fun hc66 => ?_) (fun hc66 => ?_)
    · skip
      replace h37 := ite_t hc66 h37
      obtain ⟨x30, h31, h37⟩ := bind_s h37
      with_unfolding_all refine TX_move rfl ?_
      with_unfolding_all refine TX_guard_yes rfl rfl hc66 ?_
      with_unfolding_all refine TY_idx (E := e_match_Match) rfl rfl rfl h26 rfl h31 ?_
      intro u67 h68
      obtain ⟨u69, u71, rfl, h70, h72⟩ := h68
      with_unfolding_all refine TX_guard_yes rfl rfl hc66 ?_
      with_unfolding_all refine TX_fieldAddr_c rfl rfl rfl ?_
      with_unfolding_all refine TX_guard_yes rfl rfl hc66 ?_
      with_unfolding_all refine TX_load_c rfl rfl ?_
      with_unfolding_all refine TX_guard_yes rfl rfl hc66 ?_
      with_unfolding_all refine TY_len rfl rfl rfl rfl h70 rfl ?_
      with_unfolding_all refine TX_guard_yes rfl rfl hc66 ?_
      with_unfolding_all refine TX_cmp rfl rfl rfl ?_
      with_unfolding_all refine TX_pick_t rfl hc66 rfl ?_
      obtain rfl := some_s h37
      with_unfolding_all refine TX_move rfl ?_
      with_unfolding_all refine TX_guard_t rfl rfl (fun hc73 => ?_) (fun hc73 => ?_)
      · skip
        replace h45 := ite_t hc73 h45
        obtain ⟨x38, h39, h45⟩ := bind_s h45
        with_unfolding_all refine TX_move rfl ?_
        with_unfolding_all refine TX_guard_yes rfl rfl hc73 ?_
        with_unfolding_all refine TY_idx (E := e_match_Match) rfl rfl rfl h26 rfl h39 ?_
        intro u74 h75
        obtain ⟨u76, u78, rfl, h77, h79⟩ := h75
        with_unfolding_all refine TX_guard_yes rfl rfl hc73 ?_
        with_unfolding_all refine TX_fieldAddr_c rfl rfl rfl ?_
        with_unfolding_all refine TX_guard_yes rfl rfl hc73 ?_
        with_unfolding_all refine TX_load_c rfl rfl ?_
        with_unfolding_all refine TX_guard_yes rfl rfl hc73 ?_
        with_unfolding_all refine TY_len rfl rfl rfl rfl h79 rfl ?_
        with_unfolding_all refine TX_guard_yes rfl rfl hc73 ?_
        with_unfolding_all refine TX_cmp rfl rfl rfl ?_
        with_unfolding_all refine TX_pick_t rfl hc73 rfl ?_
        obtain rfl := some_s h45
        with_unfolding_all refine TX_move rfl ?_
        with_unfolding_all refine TX_guard_t rfl rfl (fun hc80 => ?_) (fun hc80 => ?_)
        · skip
          replace h55 := ite_t hc80 h55
          obtain ⟨x46, h47, h55⟩ := bind_s h55
          obtain ⟨x52, h53, h55⟩ := bind_s h55
          with_unfolding_all refine TX_move rfl ?_
          with_unfolding_all refine TX_guard_yes rfl rfl hc80 ?_
          with_unfolding_all refine TY_idx (E := e_match_Match) rfl rfl rfl h26 rfl h47 ?_
          intro u81 h82
          obtain ⟨u83, u85, rfl, h84, h86⟩ := h82
          with_unfolding_all refine TX_guard_yes rfl rfl hc80 ?_
          with_unfolding_all refine TX_fieldAddr_c rfl rfl rfl ?_
          with_unfolding_all refine TX_guard_yes rfl rfl hc80 ?_
          with_unfolding_all refine TX_load_c rfl rfl ?_
          with_unfolding_all refine TX_guard_yes rfl rfl hc80 ?_
          with_unfolding_all refine TY_idx (E := e_match_Span) rfl rfl rfl h86 rfl h53 ?_
          intro u87 h88
          obtain rfl := h88
          with_unfolding_all refine TX_guard_yes rfl rfl hc80 ?_
          with_unfolding_all refine TX_fieldAddr_c rfl rfl rfl ?_
          with_unfolding_all refine TX_guard_yes rfl rfl hc80 ?_
          with_unfolding_all refine TX_load_c rfl rfl ?_
          with_unfolding_all refine TX_guard_yes rfl rfl hc80 ?_
          with_unfolding_all refine TX_cmp rfl rfl rfl ?_
          with_unfolding_all refine TX_pick_t rfl hc80 rfl ?_
          obtain rfl := some_s h55
          with_unfolding_all refine TX_move rfl ?_
          with_unfolding_all refine TX_guard_t rfl rfl (fun hc89 => ?_) (fun hc89 => ?_)
          · skip
            replace h59 := ite_t hc89 h59
            obtain ⟨x56, h57, h59⟩ := bind_s h59
            with_unfolding_all refine TX_move rfl ?_
            with_unfolding_all refine TX_guard_yes rfl rfl hc89 ?_
            have hc90 : CallE Try.prog 24 [v24] s22 _ := match_Holds_ok h57 h26
            with_unfolding_all refine TY_call hM64 rfl en24 hc90 ?_
            intro v91 s95 hv92 hX93 hM94
            have hO96 := hO23.ext_call hX93
            obtain rfl := hv92
            with_unfolding_all refine TX_guard_yes rfl rfl hc89 ?_
            with_unfolding_all refine TX_not rfl ?_
            with_unfolding_all refine TX_pick_t rfl hc89 rfl ?_
            obtain rfl := some_s h59
            with_unfolding_all refine TX_move rfl ?_
            with_unfolding_all refine TX_guard_t rfl rfl (fun hc97 => ?_) (fun hc97 => ?_)
            · skip
              replace h63 := ite_t hc97 h63
              obtain ⟨x60, h61, h63⟩ := bind_s h63
              with_unfolding_all refine TX_move rfl ?_
              with_unfolding_all refine TX_guard_yes rfl rfl hc97 ?_
              have hc98 : CallE Try.prog 24 [v8] s95 _ := match_Holds_ok h61 hv9
              with_unfolding_all refine TY_call hM94 rfl en24 hc98 ?_
              intro v99 s103 hv100 hX101 hM102
              have hO104 := hO96.ext_call hX101
              obtain rfl := hv100
              with_unfolding_all refine TX_pick_t rfl hc97 rfl ?_
              obtain rfl := some_s h63
              with_unfolding_all refine TX_assign rfl ?_
              with_unfolding_all refine TX_nil ?_
              with_unfolding_all refine thenQ_normal ?_
              with_unfolding_all refine TE_ret ?_
              obtain rfl := some_s hF
              exact done_any (vs := [.bool (x60)]) (.inr rfl) rfl (resR_tmp rfl resR_nil) ⟨rfl, hO104.ext⟩
            · skip
              replace h63 := ite_f hc97 h63
              obtain rfl := some_s h63
              with_unfolding_all refine TX_guard_no_t rfl rfl hc97 ?_
              with_unfolding_all refine TX_pick_f rfl hc97 rfl ?_
              with_unfolding_all refine TX_assign rfl ?_
              with_unfolding_all refine TX_nil ?_
              with_unfolding_all refine thenQ_normal ?_
              with_unfolding_all refine TE_ret ?_
              obtain rfl := some_s hF
              exact done_any (vs := [.bool (false)]) (.inr rfl) rfl (resR_tmp rfl resR_nil) ⟨rfl, hO96.ext⟩
          · skip
            replace h59 := ite_f hc89 h59
            obtain rfl := some_s h59
            with_unfolding_all refine TX_guard_no_t rfl rfl hc89 ?_
            with_unfolding_all refine TX_guard_no_t rfl rfl hc89 ?_
            with_unfolding_all refine TX_pick_f rfl hc89 rfl ?_
            with_unfolding_all refine TX_move rfl ?_
            replace h63 := ite_f rfl h63
            obtain rfl := some_s h63
            with_unfolding_all refine TX_guard_no_t rfl rfl rfl ?_
            with_unfolding_all refine TX_guard_no_t rfl rfl rfl ?_
            with_unfolding_all refine TX_pick_f rfl rfl rfl ?_
            with_unfolding_all refine TX_assign rfl ?_
            with_unfolding_all refine TX_nil ?_
            with_unfolding_all refine thenQ_normal ?_
            with_unfolding_all refine TE_ret ?_
            obtain rfl := some_s hF
            exact done_any (vs := [.bool (false)]) (.inr rfl) rfl (resR_tmp rfl resR_nil) ⟨rfl, hO23.ext⟩
        · skip
          replace h55 := ite_f hc80 h55
          obtain rfl := some_s h55
          with_unfolding_all refine TX_guard_no_t rfl rfl hc80 ?_
          with_unfolding_all refine TX_guard_no_t rfl rfl hc80 ?_
          with_unfolding_all refine TX_guard_no_t rfl rfl hc80 ?_
          with_unfolding_all refine TX_guard_no_t rfl rfl hc80 ?_
          with_unfolding_all refine TX_guard_no_t rfl rfl hc80 ?_
          with_unfolding_all refine TX_guard_no_t rfl rfl hc80 ?_
          with_unfolding_all refine TX_guard_no_t rfl rfl hc80 ?_
          with_unfolding_all refine TX_pick_f rfl hc80 rfl ?_
          with_unfolding_all refine TX_move rfl ?_
          replace h59 := ite_f rfl h59
          obtain rfl := some_s h59
          with_unfolding_all refine TX_guard_no_t rfl rfl rfl ?_
          with_unfolding_all refine TX_guard_no_t rfl rfl rfl ?_
          with_unfolding_all refine TX_guard_no_t rfl rfl rfl ?_
          with_unfolding_all refine TX_pick_f rfl rfl rfl ?_
          with_unfolding_all refine TX_move rfl ?_
          replace h63 := ite_f rfl h63
          obtain rfl := some_s h63
          with_unfolding_all refine TX_guard_no_t rfl rfl rfl ?_
          with_unfolding_all refine TX_guard_no_t rfl rfl rfl ?_
          with_unfolding_all refine TX_pick_f rfl rfl rfl ?_
          with_unfolding_all refine TX_assign rfl ?_
          with_unfolding_all refine TX_nil ?_
          with_unfolding_all refine thenQ_normal ?_
          with_unfolding_all refine TE_ret ?_
          obtain rfl := some_s hF
          exact done_any (vs := [.bool (false)]) (.inr rfl) rfl (resR_tmp rfl resR_nil) ⟨rfl, hO23.ext⟩
      · skip
        replace h45 := ite_f hc73 h45
        obtain rfl := some_s h45
        with_unfolding_all refine TX_guard_no_t rfl rfl hc73 ?_
        with_unfolding_all refine TX_guard_no_t rfl rfl hc73 ?_
        with_unfolding_all refine TX_guard_no_t rfl rfl hc73 ?_
        with_unfolding_all refine TX_guard_no_t rfl rfl hc73 ?_
        with_unfolding_all refine TX_guard_no_t rfl rfl hc73 ?_
        with_unfolding_all refine TX_pick_f rfl hc73 rfl ?_
        with_unfolding_all refine TX_move rfl ?_
        replace h55 := ite_f rfl h55
        obtain rfl := some_s h55
        with_unfolding_all refine TX_guard_no_t rfl rfl rfl ?_
        with_unfolding_all refine TX_guard_no_t rfl rfl rfl ?_
        with_unfolding_all refine TX_guard_no_t rfl rfl rfl ?_
        with_unfolding_all refine TX_guard_no_t rfl rfl rfl ?_
        with_unfolding_all refine TX_guard_no_t rfl rfl rfl ?_
        with_unfolding_all refine TX_guard_no_t rfl rfl rfl ?_
        with_unfolding_all refine TX_guard_no_t rfl rfl rfl ?_
        with_unfolding_all refine TX_guard_no_t rfl rfl rfl ?_
        with_unfolding_all refine TX_pick_f rfl rfl rfl ?_
        with_unfolding_all refine TX_move rfl ?_
        replace h59 := ite_f rfl h59
        obtain rfl := some_s h59
        with_unfolding_all refine TX_guard_no_t rfl rfl rfl ?_
        with_unfolding_all refine TX_guard_no_t rfl rfl rfl ?_
        with_unfolding_all refine TX_guard_no_t rfl rfl rfl ?_
        with_unfolding_all refine TX_pick_f rfl rfl rfl ?_
        with_unfolding_all refine TX_move rfl ?_
        replace h63 := ite_f rfl h63
        obtain rfl := some_s h63
        with_unfolding_all refine TX_guard_no_t rfl rfl rfl ?_
        with_unfolding_all refine TX_guard_no_t rfl rfl rfl ?_
        with_unfolding_all refine TX_pick_f rfl rfl rfl ?_
        with_unfolding_all refine TX_assign rfl ?_
        with_unfolding_all refine TX_nil ?_
        with_unfolding_all refine thenQ_normal ?_
        with_unfolding_all refine TE_ret ?_
        obtain rfl := some_s hF
        exact done_any (vs := [.bool (false)]) (.inr rfl) rfl (resR_tmp rfl resR_nil) ⟨rfl, hO23.ext⟩
    · skip
      replace h37 := ite_f hc66 h37
      obtain rfl := some_s h37
      with_unfolding_all refine TX_guard_no_t rfl rfl hc66 ?_
      with_unfolding_all refine TX_guard_no_t rfl rfl hc66 ?_
      with_unfolding_all refine TX_guard_no_t rfl rfl hc66 ?_
      with_unfolding_all refine TX_guard_no_t rfl rfl hc66 ?_
      with_unfolding_all refine TX_guard_no_t rfl rfl hc66 ?_
      with_unfolding_all refine TX_pick_f rfl hc66 rfl ?_
      with_unfolding_all refine TX_move rfl ?_
      replace h45 := ite_f rfl h45
      obtain rfl := some_s h45
      with_unfolding_all refine TX_guard_no_t rfl rfl rfl ?_
      with_unfolding_all refine TX_guard_no_t rfl rfl rfl ?_
      with_unfolding_all refine TX_guard_no_t rfl rfl rfl ?_
      with_unfolding_all refine TX_guard_no_t rfl rfl rfl ?_
      with_unfolding_all refine TX_guard_no_t rfl rfl rfl ?_
      with_unfolding_all refine TX_guard_no_t rfl rfl rfl ?_
      with_unfolding_all refine TX_pick_f rfl rfl rfl ?_
      with_unfolding_all refine TX_move rfl ?_
      replace h55 := ite_f rfl h55
      obtain rfl := some_s h55
      with_unfolding_all refine TX_guard_no_t rfl rfl rfl ?_
      with_unfolding_all refine TX_guard_no_t rfl rfl rfl ?_
      with_unfolding_all refine TX_guard_no_t rfl rfl rfl ?_
      with_unfolding_all refine TX_guard_no_t rfl rfl rfl ?_
      with_unfolding_all refine TX_guard_no_t rfl rfl rfl ?_
      with_unfolding_all refine TX_guard_no_t rfl rfl rfl ?_
      with_unfolding_all refine TX_guard_no_t rfl rfl rfl ?_
      with_unfolding_all refine TX_guard_no_t rfl rfl rfl ?_
      with_unfolding_all refine TX_pick_f rfl rfl rfl ?_
      with_unfolding_all refine TX_move rfl ?_
      replace h59 := ite_f rfl h59
      obtain rfl := some_s h59
      with_unfolding_all refine TX_guard_no_t rfl rfl rfl ?_
      with_unfolding_all refine TX_guard_no_t rfl rfl rfl ?_
      with_unfolding_all refine TX_guard_no_t rfl rfl rfl ?_
      with_unfolding_all refine TX_pick_f rfl rfl rfl ?_
      with_unfolding_all refine TX_move rfl ?_
      replace h63 := ite_f rfl h63
      obtain rfl := some_s h63
      with_unfolding_all refine TX_guard_no_t rfl rfl rfl ?_
      with_unfolding_all refine TX_guard_no_t rfl rfl rfl ?_
      with_unfolding_all refine TX_pick_f rfl rfl rfl ?_
      with_unfolding_all refine TX_assign rfl ?_
      with_unfolding_all refine TX_nil ?_
      with_unfolding_all refine thenQ_normal ?_
      with_unfolding_all refine TE_ret ?_
      obtain rfl := some_s hF
      exact done_any (vs := [.bool (false)]) (.inr rfl) rfl (resR_tmp rfl resR_nil) ⟨rfl, hO23.ext⟩
  · skip
    replace h29 := and_f hc65 h29
    obtain rfl := some_s h29
    with_unfolding_all refine TX_guard_no_t rfl rfl hc65 ?_
    with_unfolding_all refine TX_guard_no_t rfl rfl hc65 ?_
    with_unfolding_all refine TX_pick_f rfl hc65 rfl ?_
    with_unfolding_all refine TX_move rfl ?_
    replace h37 := ite_f rfl h37
    obtain rfl := some_s h37
    with_unfolding_all refine TX_guard_no_t rfl rfl rfl ?_
    with_unfolding_all refine TX_guard_no_t rfl rfl rfl ?_
    with_unfolding_all refine TX_guard_no_t rfl rfl rfl ?_
    with_unfolding_all refine TX_guard_no_t rfl rfl rfl ?_
    with_unfolding_all refine TX_guard_no_t rfl rfl rfl ?_
    with_unfolding_all refine TX_guard_no_t rfl rfl rfl ?_
    with_unfolding_all refine TX_pick_f rfl rfl rfl ?_
    with_unfolding_all refine TX_move rfl ?_
    replace h45 := ite_f rfl h45
    obtain rfl := some_s h45
    with_unfolding_all refine TX_guard_no_t rfl rfl rfl ?_
    with_unfolding_all refine TX_guard_no_t rfl rfl rfl ?_
    with_unfolding_all refine TX_guard_no_t rfl rfl rfl ?_
    with_unfolding_all refine TX_guard_no_t rfl rfl rfl ?_
    with_unfolding_all refine TX_guard_no_t rfl rfl rfl ?_
    with_unfolding_all refine TX_guard_no_t rfl rfl rfl ?_
    with_unfolding_all refine TX_pick_f rfl rfl rfl ?_
    with_unfolding_all refine TX_move rfl ?_
    replace h55 := ite_f rfl h55
    obtain rfl := some_s h55
    with_unfolding_all refine TX_guard_no_t rfl rfl rfl ?_
    with_unfolding_all refine TX_guard_no_t rfl rfl rfl ?_
    with_unfolding_all refine TX_guard_no_t rfl rfl rfl ?_
    with_unfolding_all refine TX_guard_no_t rfl rfl rfl ?_
    with_unfolding_all refine TX_guard_no_t rfl rfl rfl ?_
    with_unfolding_all refine TX_guard_no_t rfl rfl rfl ?_
    with_unfolding_all refine TX_guard_no_t rfl rfl rfl ?_
    with_unfolding_all refine TX_guard_no_t rfl rfl rfl ?_
    with_unfolding_all refine TX_pick_f rfl rfl rfl ?_
    with_unfolding_all refine TX_move rfl ?_
    replace h59 := ite_f rfl h59
    obtain rfl := some_s h59
    with_unfolding_all refine TX_guard_no_t rfl rfl rfl ?_
    with_unfolding_all refine TX_guard_no_t rfl rfl rfl ?_
    with_unfolding_all refine TX_guard_no_t rfl rfl rfl ?_
    with_unfolding_all refine TX_pick_f rfl rfl rfl ?_
    with_unfolding_all refine TX_move rfl ?_
    replace h63 := ite_f rfl h63
    obtain rfl := some_s h63
    with_unfolding_all refine TX_guard_no_t rfl rfl rfl ?_
    with_unfolding_all refine TX_guard_no_t rfl rfl rfl ?_
    with_unfolding_all refine TX_pick_f rfl rfl rfl ?_
    with_unfolding_all refine TX_assign rfl ?_
    with_unfolding_all refine TX_nil ?_
    with_unfolding_all refine thenQ_normal ?_
    with_unfolding_all refine TE_ret ?_
    obtain rfl := some_s hF
    exact done_any (vs := [.bool (false)]) (.inr rfl) rfl (resR_tmp rfl resR_nil) ⟨rfl, hO23.ext⟩
end Go.Proofs.Ytihbdelgoapeoaa.K
