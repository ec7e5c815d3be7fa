/- The walk of BallotOnce: it returns true. Conditions: none. -/
import Derived.Test.YtbjeoaklpcbocaaHandShown
import Derived.Deep.RegionWith
import Derived.Deep.RegionHeld3
namespace Go.Proofs.Ytbjeoaklpcbocaa.Pr
open Go.RowKit Go.Proofs.YtbjeoaklpcbocaaW.PrintWords Go.Proofs.YtbjeoaklpcbocaaW.PrintLast Go.Proofs.YtbjeoaklpcbocaaW.PrintMore
open Go.Proofs.Ytbjeoaklpcbocaa.Hnd
attribute [local go_sem] setCell_drewN_ alloc_drewN_
set_option linter.unusedVariables false
set_option linter.unusedSimpArgs false
theorem answerT_some (nw : Bool) (a0_0 : Int) (a0_1 : Int) (a0_2 : Int) (a0_3 : Int) (a0_4 : Bool) (a1_0 : Int) (a1_1 : Int) (a1_2 : Int) (a1_3 : Int) (a1_4 : Bool) :
    ∃ r, answerT nw a0_0 a0_1 a0_2 a0_3 a0_4 a1_0 a1_1 a1_2 a1_3 a1_4 = some r := by
  unfold answerT
  repeat (first | exact ⟨_, rfl⟩ | split)
theorem answer_cases (nw : Bool) (T V c d : Int) (H : Bool) (T' F c' d' : Int) (P : Bool) :
    (P = true ∧ ∃ b, answerT nw T V c d H T' F c' d' P = some (T, V, c, d, H, b)) ∨
    (P = false ∧ answerT nw T V c d H T' F c' d' P = some (T, V, c, d, H, false)) ∨
    (P = false ∧ T < T' ∧ answerT nw T V c d H T' F c' d' P = some (T', 0, c, d, H, false)) ∨
    (P = false ∧ T < T' ∧ F ≠ 0 ∧ answerT nw T V c d H T' F c' d' P = some (T', F, c, d, H, true)) ∨
    (P = false ∧ T' = T ∧ F ≠ 0 ∧ V = 0 ∧ answerT nw T V c d H T' F c' d' P = some (T, F, c, d, H, true)) ∨
    (P = false ∧ T' = T ∧ F ≠ 0 ∧ V = F ∧ answerT nw T V c d H T' F c' d' P = some (T, F, c, d, H, true)) := by
  cases P with
  | true =>
    left
    refine ⟨rfl, ?_⟩
    unfold answerT
    rw [if_pos rfl]
    repeat (first | exact ⟨_, rfl⟩ | split)
  | false =>
    right
    by_cases h1 : T' < T
    · left; simp [answerT, h1]
    · by_cases h2 : T < T'
      · cases H with
        | true => left; simp [answerT, h1, h2]
        | false =>
          right
          by_cases h3 : F = 0
          · left; simp [answerT, h1, h2, h3]
          · cases nw with
            | true => right; left; simp [answerT, h1, h2, h3]
            | false => left; simp [answerT, h1, h2, h3]
      · have h4 : T' = T := by omega
        by_cases h3 : F = 0
        · left
          by_cases h5 : V = 0
          · simp [answerT, h1, h2, h3, h5]
          · simp [answerT, h1, h2, h3, h5]
        · cases nw with
          | false =>
            left
            by_cases h5 : V = 0
            · simp [answerT, h1, h2, h3, h5]
            · by_cases h6 : V = F
              · simp [answerT, h1, h2, h3, h5, h6]
              · simp [answerT, h1, h2, h3, h5, h6]
          | true =>
            by_cases h5 : V = 0
            · right; right; right; left; subst h4; simp [answerT, h3, h5]
            · by_cases h6 : V = F
              · right; right; right; right; subst h4; subst h6; simp [answerT, h3]
              · left; simp [answerT, h1, h2, h3, h5, h6]
theorem eqS24 (d : Nat) (w : World) (x0 y0 : Int) (x1 y1 : Int) (x2 y2 : Int) (x3 y3 : Int) (x4 y4 : Bool) :
    (Op.equalIn (d + 2) 24 (.agg #[.int .u64 x0, .int .u64 x1, .int .u64 x2, .int .u64 x3, .bool x4]) (.agg #[.int .u64 y0, .int .u64 y1, .int .u64 y2, .int .u64 y3, .bool y4])).run Try.prog w = .ok (x0 == y0 && (x1 == y1 && (x2 == y2 && (x3 == y3 && (x4 == y4))))) w := by
  refine eqA_of Try.underlying24 (by kernel_rfl) ?_
  refine eqf_cons (by rfl) (by go_simp; rfl) (by go_simp; rfl) (by go_simp) ?_
  refine eqf_cons (by rfl) (by go_simp; rfl) (by go_simp; rfl) (by go_simp) ?_
  refine eqf_cons (by rfl) (by go_simp; rfl) (by go_simp; rfl) (by go_simp) ?_
  refine eqf_cons (by rfl) (by go_simp; rfl) (by go_simp; rfl) (by go_simp) ?_
  exact eqf_last (by rfl) (by go_simp; rfl) (by go_simp; rfl) (by go_simp)
attribute [local go_sem high] eqS24
def ferrulelaw07_BallotOnce.f (a0_0 : Int) (a0_1 : Int) (a0_2 : Int) (a0_3 : Int) (a0_4 : Bool) (l1 : List S26) : Option Bool := some true
set_option maxHeartbeats 8000000 in
set_option maxRecDepth 100000 in
theorem ferrulelaw07_BallotOnce.calls (a0_0 : Int) (a0_1 : Int) (a0_2 : Int) (a0_3 : Int) (a0_4 : Bool) (A1 : Option Addr) (c1 : Nat) (l1 : List S26) (r : Bool) (w : World) (hr1 : Kd.C k26 w A1 l1.length l1) (hc1 : l1.length ≤ c1) (h : ferrulelaw07_BallotOnce.f a0_0 a0_1 a0_2 a0_3 a0_4 l1 = some r) :
    Calls Try.prog 4 #[.agg #[.int .u64 a0_0, .int .u64 a0_1, .int .u64 a0_2, .int .u64 a0_3, .bool a0_4], .slice A1 l1.length c1] w fun e w' => e = .returned (.bool r) ∧ Below w.heap.size w w' := by
  obtain rfl := Option.some.inj h
  clear h
  have H0 := fun W => Aside0.mk (ferrulelaw07_shown.calls true W rfl)
  have HR := Aside0.mk hr1
  have HL : l1.length ≤ 9223372036854775807 := hr1.2.1
  have HL0 := Aside0.mk HL
  clear hr1
  go_enter Try.func4, Try.ntmps4
  go_wp2_with fail
  refine (H0 _).out.mono ?_
  rintro e w1 ⟨rfl, hb1⟩
  have ka := cell_new' w.heap.size rfl hb1
  have za := lt_new' w.heap.size rfl hb1
  have B1 := Aside0.mk (below_call ((Below.refl w.heap.size w).alloc (Nat.le_refl _) _) hb1)
  have K1 := Aside0.mk (blk_below (blk_new w _) hb1)
  clear hb1 H0
  go_wp2_with fail
  go_loopg [6, 7, 8] l1.length (fun g v6 v7 v8 wr => ∃ (i T V c d : Int) (H : Bool), v6 = .int .u64 T ∧ v7 = .int .u64 V ∧ v8 = .int .i64 i ∧ Aside0 (0 ≤ i ∧ i ≤ l1.length ∧ (l1.length : Int) - i ≤ g) ∧ Aside0 (wr.heap[w.heap.size]? = some (.cells #[.int .u64 T, .int .u64 V, .int .u64 c, .int .u64 d, .bool H] 24 (0, 0))) ∧ Aside0 (Below w.heap.size w wr))
  case atStart => exact ⟨0, a0_0, a0_1, a0_2, a0_3, a0_4, rfl, rfl, rfl, ⟨by omega⟩, K1, B1⟩
  case round =>
    clear K1 B1 ka za
    obtain ⟨i, T, V, c, d, H, rfl, rfl, rfl, HI, HK, HB⟩ := hrel
    have kb := fun o => blk_cell HK.out o
    have fb := fun o => blk_frozen HK.out o
    have zb := blk_lt HK.out
    by_cases hlt : i < l1.length
    · have hltb := decide_eq_true hlt
      have p0 := HI.out.1
      obtain ⟨ad, rfl, e0, e1, e2, e3, e4⟩ := at_T26 HR.out i p0 hlt
      replace e0 := (HB.out.cell (World.block_lt_of_cell? w _ e0)).trans e0
      replace e1 := (HB.out.cell (World.block_lt_of_cell? w _ e1)).trans e1
      replace e2 := (HB.out.cell (World.block_lt_of_cell? w _ e2)).trans e2
      replace e3 := (HB.out.cell (World.block_lt_of_cell? w _ e3)).trans e3
      replace e4 := (HB.out.cell (World.block_lt_of_cell? w _ e4)).trans e4
      obtain ⟨⟨T', F, c', d', P⟩, hx⟩ : ∃ x, rd_T26 l1 i = x := ⟨_, rfl⟩
      have HX := Aside0.mk hx
      rw [hx] at e0 e1 e2 e3 e4
      clear hx
      simp only at e0 e1 e2 e3 e4
      have zc : (ad.add (i.toNat * 5)).block < wr.heap.size := World.block_lt_of_cell? wr _ e0
      have zc1 : (ad.add (i.toNat * 5)).block < wr.heap.size + 1 := by omega
      have zb1 : w.heap.size < wr.heap.size + 1 := by omega
      have nb1 : ¬ (w.heap.size = wr.heap.size) := by omega
      have nb2 : ¬ (wr.heap.size = w.heap.size) := by omega
      have nc1 : ¬ ((ad.add (i.toNat * 5)).block = wr.heap.size) := by omega
      have nc2 : ¬ (wr.heap.size = (ad.add (i.toNat * 5)).block) := by omega
      have p1 := eq_true p0
      have p2 := eq_true hlt
      clear p0 hlt
      obtain ⟨⟨b1, b2, b3, b4, b5, b6⟩, hA⟩ := answerT_some (newerB c' d' c d) T V c d H T' F c' d' P
      have H1 := fun W => Aside0.mk (ballot_Answer.calls T V c d H T' F c' d' P b1 b2 b3 b4 b5 b6 W hA)
      have HA := Aside0.mk hA
      clear hA
      go_upto_region 7 with (fail)
      go_cut [9, 10] (fun v9 v10 wc => ∃ gb : Nat, v9 = .pointer (some ⟨gb, 0, none⟩) ∧ v10 = .bool b6 ∧ Aside0 (wc.heap[gb]? = some (.cells #[.int .u64 b1, .int .u64 b2, .int .u64 b3, .int .u64 b4, .bool b5] 24 (0, 0))) ∧ Aside0 (wc.heap[w.heap.size]? = some (.cells #[.int .u64 T, .int .u64 V, .int .u64 c, .int .u64 d, .bool H] 24 (0, 0))) ∧ Aside0 (Below w.heap.size w wc) ∧ Aside0 (w.heap.size < gb))
      case first =>
        go_region_held3 (fun w' => w'.cell? ⟨w.heap.size, 0, none⟩ = some (.int .u64 T) ∧ w'.cell? ⟨w.heap.size, 1, none⟩ = some (.int .u64 V) ∧ w'.cell? ⟨w.heap.size, 2, none⟩ = some (.int .u64 c) ∧ w'.cell? ⟨w.heap.size, 3, none⟩ = some (.int .u64 d) ∧ w'.cell? ⟨w.heap.size, 4, none⟩ = some (.bool H) ∧ w'.cell? (ad.add (i.toNat * 5)) = some (.int .u64 T') ∧ w'.cell? ⟨(ad.add (i.toNat * 5)).block, (ad.add (i.toNat * 5)).off + 1, none⟩ = some (.int .u64 F) ∧ w'.cell? ⟨(ad.add (i.toNat * 5)).block, (ad.add (i.toNat * 5)).off + 2, none⟩ = some (.int .u64 c') ∧ w'.cell? ⟨(ad.add (i.toNat * 5)).block, (ad.add (i.toNat * 5)).off + 3, none⟩ = some (.int .u64 d') ∧ w'.cell? ⟨(ad.add (i.toNat * 5)).block, (ad.add (i.toNat * 5)).off + 4, none⟩ = some (.bool P)) (go_keep) ((go_at_call 9; refine (H1 _).out.mono ?_; rintro e w2 ⟨rfl, hb2⟩; have hc2 : ∀ p : Addr, p.block < wr.heap.size → w2.cell? p = wr.cell? p := (fun p h => by first | exact hb2.cell (p := p) h | exact (hb2.cell (p := p) (by simp; omega)).trans (World.cell?_alloc_lt _ _ p h)); have hz2 : wr.heap.size ≤ w2.heap.size := (by first | exact le_D hb2 | exact Nat.le_of_lt (lt_newD hb2)); have zb2 : w.heap.size < w2.heap.size := (by omega); have zc2 : (ad.add (i.toNat * 5)).block < w2.heap.size := (by omega); (try (have kn := cell_newD hb2; have fn := frozen_newD hb2; have bn := Aside0.mk (blk_newD hb2); have zn : wr.heap.size < w2.heap.size := lt_newD hb2))))
        all_goals
          go_wp2
          go_meet
          refine ⟨_, rfl, rfl, ⟨?_⟩, ⟨?_⟩, ⟨?_⟩, ⟨?_⟩⟩
          · first | (with_reducible exact blk_new _ _) | (with_reducible exact blk_store5 bn.out _ _ _ _ _)
          · first | (with_reducible exact blk_alloc (blk_below (blk_drew HK.out) hb2) _) | (with_reducible exact blk_far5 (blk_below (blk_drew (blk_alloc HK.out _)) hb2) nb1 _ _ _ _ _)
          · first | (with_reducible exact Below.alloc (below_call HB.out.drew hb2) (Nat.le_of_lt zb2) _) | (with_reducible exact below_store5 (below_call (HB.out.alloc HB.out.size _).drew hb2) (Nat.le_of_lt zb) _ _ _ _ _)
          · first | exact zb | exact zb2
      case rest =>
        clear H1 kb fb e0 e1 e2 e3 e4 zc zc1 zb1 nb1 nb2 nc1 nc2 zb HK HB
        obtain ⟨gb, rfl, rfl, GB, GS, BW, ZL⟩ := hcut
        have kg := fun o => blk_cell GB.out o
        have fg := fun o => blk_frozen GB.out o
        have kb := fun o => blk_cell GS.out o
        have fb := fun o => blk_frozen GS.out o
        have zg := blk_lt GB.out
        have zb := blk_lt GS.out
        obtain ⟨ad', had', e0, e1, e2, e3, e4⟩ := at_T26 HR.out i (of_eq_true p1) (of_eq_true p2)
        obtain rfl : ad = ad' := by injection had'
        replace e0 := (BW.out.cell (World.block_lt_of_cell? w _ e0)).trans e0
        replace e1 := (BW.out.cell (World.block_lt_of_cell? w _ e1)).trans e1
        replace e2 := (BW.out.cell (World.block_lt_of_cell? w _ e2)).trans e2
        replace e3 := (BW.out.cell (World.block_lt_of_cell? w _ e3)).trans e3
        replace e4 := (BW.out.cell (World.block_lt_of_cell? w _ e4)).trans e4
        rw [HX.out] at e0 e1 e2 e3 e4
        simp only at e0 e1 e2 e3 e4
        have nbs : ¬ (gb = w.heap.size) := by have := ZL.out; omega
        have nsb : ¬ (w.heap.size = gb) := by have := ZL.out; omega
        rcases answer_cases (newerB c' d' c d) T V c d H T' F c' d' P with ⟨rfl, b, hB⟩ | ⟨rfl, hB⟩ | ⟨rfl, hT, hB⟩ | ⟨rfl, hT, hF, hB⟩ | ⟨rfl, rfl, hF, rfl, hB⟩ | ⟨rfl, rfl, hF, rfl, hB⟩
        · have hC := HA.out.symm.trans hB
          simp only [Option.some.injEq, Prod.mk.injEq] at hC
          obtain ⟨rfl, rfl, rfl, rfl, rfl, rfl⟩ := hC
          clear hB HA
          cases b6 with
          | true =>
            go_wp2
            go_roundg (gk - 1)
            case measure => have := HI.out; have := of_eq_true p1; have := of_eq_true p2; omega
            case rel =>
              refine ⟨_, _, _, _, _, _, rfl, rfl, rfl, ⟨?_⟩, ⟨blk_store5 GS.out _ _ _ _ _⟩, ⟨below_store5 BW.out (Nat.le_refl _) _ _ _ _ _⟩⟩
              have q0 := HI.out
              have q1 := of_eq_true p1
              have q2 := of_eq_true p2
              have hw : wrap64 (i + 1) = i + 1 := by unfold wrap64; omega
              rw [hw]
              omega

          | false =>
            go_wp2
            go_roundg (gk - 1)
            case measure => have := HI.out; have := of_eq_true p1; have := of_eq_true p2; omega
            case rel =>
              refine ⟨_, _, _, _, _, _, rfl, rfl, rfl, ⟨?_⟩, ⟨blk_store5 GS.out _ _ _ _ _⟩, ⟨below_store5 BW.out (Nat.le_refl _) _ _ _ _ _⟩⟩
              have q0 := HI.out
              have q1 := of_eq_true p1
              have q2 := of_eq_true p2
              have hw : wrap64 (i + 1) = i + 1 := by unfold wrap64; omega
              rw [hw]
              omega

        · have hC := HA.out.symm.trans hB
          simp only [Option.some.injEq, Prod.mk.injEq] at hC
          obtain ⟨rfl, rfl, rfl, rfl, rfl, rfl⟩ := hC
          clear hB HA
          go_wp2
          go_roundg (gk - 1)
          case measure => have := HI.out; have := of_eq_true p1; have := of_eq_true p2; omega
          case rel =>
            refine ⟨_, _, _, _, _, _, rfl, rfl, rfl, ⟨?_⟩, ⟨blk_store5 GS.out _ _ _ _ _⟩, ⟨below_store5 BW.out (Nat.le_refl _) _ _ _ _ _⟩⟩
            have q0 := HI.out
            have q1 := of_eq_true p1
            have q2 := of_eq_true p2
            have hw : wrap64 (i + 1) = i + 1 := by unfold wrap64; omega
            rw [hw]
            omega
        · have hC := HA.out.symm.trans hB
          simp only [Option.some.injEq, Prod.mk.injEq] at hC
          obtain ⟨rfl, rfl, rfl, rfl, rfl, rfl⟩ := hC
          clear hB HA
          have hTb := decide_eq_true hT
          have hTc := decide_eq_false (show ¬ _ < _ from Int.not_lt.mpr (Int.le_of_lt hT))
          clear hT
          go_wp2
          go_roundg (gk - 1)
          case measure => have := HI.out; have := of_eq_true p1; have := of_eq_true p2; omega
          case rel =>
            refine ⟨_, _, _, _, _, _, rfl, rfl, rfl, ⟨?_⟩, ⟨blk_store5 GS.out _ _ _ _ _⟩, ⟨below_store5 BW.out (Nat.le_refl _) _ _ _ _ _⟩⟩
            have q0 := HI.out
            have q1 := of_eq_true p1
            have q2 := of_eq_true p2
            have hw : wrap64 (i + 1) = i + 1 := by unfold wrap64; omega
            rw [hw]
            omega
        · have hC := HA.out.symm.trans hB
          simp only [Option.some.injEq, Prod.mk.injEq] at hC
          obtain ⟨rfl, rfl, rfl, rfl, rfl, rfl⟩ := hC
          clear hB HA
          have hTb := decide_eq_true hT
          have hTc := decide_eq_false (show ¬ _ < _ from Int.not_lt.mpr (Int.le_of_lt hT))
          have hFb := beq_eq_false_iff_ne.mpr hF
          have hFc := bne_iff_ne.mpr hF
          clear hT hF
          go_wp2
          go_roundg (gk - 1)
          case measure => have := HI.out; have := of_eq_true p1; have := of_eq_true p2; omega
          case rel =>
            refine ⟨_, _, _, _, _, _, rfl, rfl, rfl, ⟨?_⟩, ⟨blk_store5 GS.out _ _ _ _ _⟩, ⟨below_store5 BW.out (Nat.le_refl _) _ _ _ _ _⟩⟩
            have q0 := HI.out
            have q1 := of_eq_true p1
            have q2 := of_eq_true p2
            have hw : wrap64 (i + 1) = i + 1 := by unfold wrap64; omega
            rw [hw]
            omega
        · have hC := HA.out.symm.trans hB
          simp only [Option.some.injEq, Prod.mk.injEq] at hC
          obtain ⟨rfl, rfl, rfl, rfl, rfl, rfl⟩ := hC
          clear hB HA
          have hFb := beq_eq_false_iff_ne.mpr hF
          have hFc := bne_iff_ne.mpr hF
          clear hF
          go_wp2
          go_roundg (gk - 1)
          case measure => have := HI.out; have := of_eq_true p1; have := of_eq_true p2; omega
          case rel =>
            refine ⟨_, _, _, _, _, _, rfl, rfl, rfl, ⟨?_⟩, ⟨blk_store5 GS.out _ _ _ _ _⟩, ⟨below_store5 BW.out (Nat.le_refl _) _ _ _ _ _⟩⟩
            have q0 := HI.out
            have q1 := of_eq_true p1
            have q2 := of_eq_true p2
            have hw : wrap64 (i + 1) = i + 1 := by unfold wrap64; omega
            rw [hw]
            omega
        · have hC := HA.out.symm.trans hB
          simp only [Option.some.injEq, Prod.mk.injEq] at hC
          obtain ⟨rfl, rfl, rfl, rfl, rfl, rfl⟩ := hC
          clear hB HA
          have hFb := beq_eq_false_iff_ne.mpr hF
          have hFc := bne_iff_ne.mpr hF
          clear hF
          go_wp2
          go_roundg (gk - 1)
          case measure => have := HI.out; have := of_eq_true p1; have := of_eq_true p2; omega
          case rel =>
            refine ⟨_, _, _, _, _, _, rfl, rfl, rfl, ⟨?_⟩, ⟨blk_store5 GS.out _ _ _ _ _⟩, ⟨below_store5 BW.out (Nat.le_refl _) _ _ _ _ _⟩⟩
            have q0 := HI.out
            have q1 := of_eq_true p1
            have q2 := of_eq_true p2
            have hw : wrap64 (i + 1) = i + 1 := by unfold wrap64; omega
            rw [hw]
            omega
    · have hltb := decide_eq_false hlt
      clear hlt
      go_wp2
      go_ret
      exact ⟨rfl, HB.out⟩
end Go.Proofs.Ytbjeoaklpcbocaa.Pr
