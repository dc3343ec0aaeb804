/- Walks. Printed. -/
import Derived.Test.YtihbdelgoapeoaaGW8
namespace Go.Proofs.Ytihbdelgoapeoaa.K
open Go Go.RowKit F
set_option maxRecDepth 100000
set_option maxHeartbeats 4000000
set_option linter.unusedVariables false
set_option linter.unusedSimpArgs false
theorem law12_MatchLimits_1_ok {x0_ : Int} {y : (List match_Match)} (hF : F.law12_MatchLimits_1 x0_ = some y) {v0_ : AV} {σ : Mem} (h0_ : (eI .i64).rel v0_ x0_)  :
    CallE Try.prog 25 [v0_] σ (fun v σ' => (RS e_match_Match) v y ∧ Ext σ σ') := by
  unfold F.law12_MatchLimits_1 at hF
  obtain rfl := h0_
  refine CallE_of Try.func25 rfl Try.ntmps25 (by simp) ?_
  have hO0 := Own.start σ
  with_unfolding_all refine TE_seq ?_
  with_unfolding_all refine TE_seqY ?_
  have hM1 := MB_none σ
  with_unfolding_all refine TX_assign rfl ?_
  with_unfolding_all refine TX_nil ?_
  with_unfolding_all refine thenQ_normal ?_
  with_unfolding_all refine TE_seq ?_
  with_unfolding_all refine TE_seqY ?_
  have hM2 := MB_none σ
  have h3 : All2 e_match_Span.rel ([] : List AV) ([] : (List match_Span)) := trivial
  with_unfolding_all refine TY_buildSlice rfl rfl rfl rfl rfl h3 rfl (by decide) (by with_unfolding_all exact Nat.le_of_ble_eq_true rfl) ?_
  have h4 : RS e_match_Span (.sl [] .full) ([] : (List match_Span)) := RS.of h3
  with_unfolding_all refine TX_assign rfl ?_
  with_unfolding_all refine TX_nil ?_
  with_unfolding_all refine thenQ_normal ?_
  with_unfolding_all refine TE_seq ?_
  with_unfolding_all refine TE_seq ?_
  with_unfolding_all refine TE_seqY ?_
  have hM5 := MB_none σ
  with_unfolding_all refine TX_assign rfl ?_
  with_unfolding_all refine TX_nil ?_
  with_unfolding_all refine thenQ_normal ?_
  with_unfolding_all refine TE_block ?_
  obtain ⟨p12, h18, hF⟩ := bind_s hF
  refine TE_iter (f := F.law12_MatchLimits_1_s1 x0_) (s0 := (([] : (List match_Span)), 0)) (a := p12) (fun (q6 : ((List match_Span) × Int)) z => ∃ (u8 : AV) (s10 : Mem), RS e_match_Span u8 q6.1 ∧ Own σ [] s10 [.buf u8] ∧ Le z ⟨fr 19 [(0, .int .i64 (x0_)), (3, u8), (4, .int .i64 (q6.2))], [], s10⟩) (fun (p12 : (List match_Span)) e z => (e = .exit 0 ∧ ∃ (u13 : AV) (s15 : Mem), RS e_match_Span u13 p12 ∧ Own σ [] s15 [.buf u13] ∧ Le z ⟨fr 19 [(3, u13)], [], s15⟩)) h18 ?_ ?_ ?_
  · skip
    have hO19 : Own σ [] σ [.buf (.sl [] .full)] := hO0.bufFull []
    exact ⟨(.sl [] .full), σ, h4, (hO19.sub 1 rfl), (Le_fr ⟨rfl, ⟨rfl, ⟨rfl, trivial⟩⟩⟩)⟩
  · skip
    clear hF
    rintro q6 zq6 r7 ⟨u8, s10, h9, hO11, hz20⟩ hF
    unfold F.law12_MatchLimits_1_s1 at hF
    refine TE_pre hz20 ?_
    with_unfolding_all refine TE_seq ?_
    with_unfolding_all refine TE_seq ?_
    with_unfolding_all refine TE_seqY ?_
    have hM21 := MB_none s10
    with_unfolding_all refine TX_move rfl ?_
    with_unfolding_all refine TX_move rfl ?_
    with_unfolding_all refine TX_cmp rfl rfl rfl ?_
    with_unfolding_all refine TX_nil ?_
    with_unfolding_all refine thenQ_normal ?_
    with_unfolding_all refine TE_cond rfl (fun hc22 => ?_) (fun hc22 => ?_)
    · skip
      replace hF := ite_t hc22 hF
      with_unfolding_all refine TE_skip ?_
      with_unfolding_all refine thenQ_normal ?_
      with_unfolding_all refine TE_seq ?_
      with_unfolding_all refine TE_block ?_
      obtain ⟨x23, h24, hF⟩ := bind_s hF
      with_unfolding_all refine TE_seqY ?_
      have hM25 := MB_none s10
      with_unfolding_all refine TX_move rfl ?_
      with_unfolding_all refine TX_move rfl ?_
      with_unfolding_all refine TX_move rfl ?_
      with_unfolding_all refine TY_build [.int .i64 (q6.2), .int .i64 (q6.2), .int .i64 (0), .int .i64 (0)] rfl rfl rfl (by with_unfolding_all exact Fill.cons rfl rfl rfl (by with_unfolding_all exact Nat.le_of_ble_eq_true rfl) (Fill.cons rfl rfl rfl (by with_unfolding_all exact Nat.le_of_ble_eq_true rfl) (Fill.nil _))) (by with_unfolding_all rfl) ?_
      have h26 : All2 e_match_Span.rel ([.agg [.int .i64 (q6.2), .int .i64 (q6.2), .int .i64 (0), .int .i64 (0)]] : List AV) ([(F.match_Span.mk q6.2 q6.2 0 0)] : (List match_Span)) := ⟨rfl, trivial⟩
      with_unfolding_all refine TY_buildSlice rfl rfl rfl rfl rfl h26 rfl (by decide) (by with_unfolding_all exact Nat.le_of_ble_eq_true rfl) ?_
      have h27 : RS e_match_Span (.sl [.agg [.int .i64 (q6.2), .int .i64 (q6.2), .int .i64 (0), .int .i64 (0)]] .full) ([(F.match_Span.mk q6.2 q6.2 0 0)] : (List match_Span)) := RS.of h26
      with_unfolding_all refine TY_append appT25_25 hO11 hM25 rfl rfl rfl rfl h9 rfl h27 h24 ?_
      rintro u28 s30 (h29 : RS e_match_Span u28 x23) (hO31 : Own σ [] s30 [.buf u28]) hM32
      with_unfolding_all refine TX_assign rfl ?_
      with_unfolding_all refine TX_nil ?_
      with_unfolding_all refine blockQ_normal ?_
      with_unfolding_all refine thenQ_normal ?_
      with_unfolding_all refine TE_seqY ?_
      have hM33 := MB_none s30
      with_unfolding_all refine TX_move rfl ?_
      with_unfolding_all refine TX_ari rfl rfl rfl ?_
      with_unfolding_all refine TX_assign rfl ?_
      with_unfolding_all refine TX_nil ?_
      obtain rfl := some_s hF
      exact iterQ_again ⟨u28, s30, h29, (hO31.sub 1 rfl), (Le_fr ⟨rfl, ⟨rfl, ⟨rfl, trivial⟩⟩⟩)⟩
    · skip
      replace hF := ite_f hc22 hF
      with_unfolding_all refine TE_exit ?_
      with_unfolding_all refine thenQ_exit ?_
      obtain rfl := some_s hF
      exact iterQ_exit (⟨rfl, u8, s10, h9, (hO11.sub 1 rfl), (Le_fr ⟨rfl, trivial⟩)⟩)
  · skip
    rintro eq6 zq6 (⟨rfl, u13, s15, h14, hO16, hz34⟩)
    with_unfolding_all refine blockQ_out ?_
    with_unfolding_all refine thenQ_normal ?_
    refine TE_pre hz34 ?_
    with_unfolding_all refine TE_seq ?_
    obtain ⟨x35, h36, hF⟩ := bind_s hF
    with_unfolding_all refine TE_seqY ?_
    have hM37 := MB_none s15
    with_unfolding_all refine TX_move rfl ?_
    have hc38 : CallE Try.prog 26 [u13] s15 _ := match_Of_ok h36 h14
    with_unfolding_all refine TY_call hM37 rfl en26 hc38 ?_
    intro v39 s43 hv40 hX41 hM42
    have hO44 := hO16.ext_call hX41
    with_unfolding_all refine TX_assign rfl ?_
    with_unfolding_all refine TX_nil ?_
    with_unfolding_all refine thenQ_normal ?_
    with_unfolding_all refine TE_ret ?_
    obtain rfl := some_s hF
    exact done_any (vs := [v39]) (.inr rfl) rfl (resR_tmp rfl resR_nil) ⟨hv40, hO44.ext⟩
end Go.Proofs.Ytihbdelgoapeoaa.K
