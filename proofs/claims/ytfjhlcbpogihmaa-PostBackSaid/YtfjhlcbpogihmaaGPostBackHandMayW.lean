/- post.May: what it computes, and that it does. Conditions: none. -/
import Derived.Test.YtfjhlcbpogihmaaKPostBack1
import Derived.Deep.RegionWith
namespace Go.Proofs.Ytfjhlcbpogihmaa.Pr
open Go.RowKit Go.Proofs.YtfjhlcbpogihmaaW.PrintWords Go.Proofs.YtfjhlcbpogihmaaW.PrintLast Go.Proofs.YtfjhlcbpogihmaaW.PrintMore
open Go.Proofs.Ytfjhlcbpogihmaa.Hnd
attribute [local go_sem] max2_int max_four
attribute [local go_sem high] look_run
set_option linter.unusedVariables false
set_option linter.unusedSimpArgs false
def mx4 (a b c d : Int) : Int := if (if (if a < b then b else a) < c then c else (if a < b then b else a)) < d then d else (if (if a < b then b else a) < c then c else (if a < b then b else a))
def mayL (k i lt : Int) : Bool := (!hI k && i != 0) || ((!hI k || k == 7) && lt != 0)
def mayR (k cm : Int) (ok : Bool) (es : List S75) (s : ByteArray) : Bool := (((hC k || cm == 0) && (hT k || !ok)) && (hE k || (es.length : Int) == 0)) && (hS k || s.toList == ([] : List UInt8))
def mayB (k f t tm i lt cm : Int) (ok : Bool) (es : List S75) (s : ByteArray) : Bool :=
  if isK k = true then (if f < 1 then false else if f > 63 then false else if t < 1 then false else if t > 63 then false
    else if mx4 tm i lt cm > 4611686018427387903 then false else if (es.length : Int) > 8 then false else if (s.size : Int) > 4096 then false else if es.any oddE = true then false
    else if mayL k i lt = true then false else mayR k cm ok es s) else false
def post_May.f (a0_0 a0_1 a0_2 a0_3 a0_4 a0_5 a0_6 : Int) (a0_7 : Bool) (l0_8 : List S75) (a0_9 : ByteArray) : Option Bool := some (mayB a0_0 a0_1 a0_2 a0_3 a0_4 a0_5 a0_6 a0_7 l0_8 a0_9)
def OnN (R : Act → World → Prop) : Exit → Act → World → Prop
  | .normal, a, w => R a w
  | _, _, _ => False
theorem blk_newAt {W : World} {o : Obj} (n : Nat) (hn : W.heap.size = n) : (W.alloc o).heap[n]? = some o := hn ▸ blk_new W o
set_option maxHeartbeats 4000000 in
set_option maxRecDepth 100000 in
theorem post_May.calls (a0_0 a0_1 a0_2 a0_3 a0_4 a0_5 a0_6 : Int) (a0_7 : Bool) (A0_8 : Option Addr) (c0_8 : Nat) (l0_8 : List S75) (a0_9 : ByteArray) (r : Bool) (w : World) (hr0_8 : Kd.C k75 w A0_8 l0_8.length l0_8) (hc0_8 : l0_8.length ≤ c0_8) (h : post_May.f a0_0 a0_1 a0_2 a0_3 a0_4 a0_5 a0_6 a0_7 l0_8 a0_9 = some r) :
    Calls Try.prog 33 #[.agg #[.int .i64 a0_0, .int .u64 a0_1, .int .u64 a0_2, .int .u64 a0_3, .int .u64 a0_4, .int .u64 a0_5, .int .u64 a0_6, .bool a0_7, .slice A0_8 l0_8.length c0_8, .string a0_9]] w fun e w' => e = .returned (.bool r) ∧ Below w.heap.size w w' := by
  unfold post_May.f at h
  have HM := Aside0.mk (Option.some.inj h)
  have HR := Aside0.mk hr0_8
  have HC := Aside0.mk hc0_8
  clear h hr0_8 hc0_8
  have hb1 := blk_new w (.cells #[.int .i64 a0_0, .int .u64 a0_1, .int .u64 a0_2, .int .u64 a0_3, .int .u64 a0_4, .int .u64 a0_5, .int .u64 a0_6, .bool a0_7, .slice A0_8 l0_8.length c0_8, .string a0_9] 57)
  have hB0 : Below w.heap.size w (w.alloc (.cells #[.int .i64 a0_0, .int .u64 a0_1, .int .u64 a0_2, .int .u64 a0_3, .int .u64 a0_4, .int .u64 a0_5, .int .u64 a0_6, .bool a0_7, .slice A0_8 l0_8.length c0_8, .string a0_9] 57)) := below_alloc (Below.refl _ _) _
  go_enter Try.func33, Try.ntmps33
  go_upto_region 1 with (fail)
  generalize w.alloc (.cells #[.int .i64 a0_0, .int .u64 a0_1, .int .u64 a0_2, .int .u64 a0_3, .int .u64 a0_4, .int .u64 a0_5, .int .u64 a0_6, .bool a0_7, .slice A0_8 l0_8.length c0_8, .string a0_9] 57) = W0 at hb1 hB0 ⊢
  have y0 := blk_cell hb1 0
  have zl := blk_lt hb1
  have l1 := look_run (W0.alloc (.map nmEs 7)).drew W0.heap.size a0_0 (blk_drew (blk_new W0 (.map nmEs 7)))
  have l2 := look_run ((W0.alloc (.map nmEs 7)).alloc (.cells #[.bool false, .bool false, .bool false, .bool false, .bool false] 107)).drew W0.heap.size a0_0 (blk_drew (blk_alloc (blk_new W0 (.map nmEs 7)) (.cells #[.bool false, .bool false, .bool false, .bool false, .bool false] 107)))
  have l3 := look_run ((W0.alloc (.cells #[.bool false, .bool false, .bool false, .bool false, .bool false] 107)).alloc (.map nmEs 7)).drew (W0.alloc (.cells #[.bool false, .bool false, .bool false, .bool false, .bool false] 107)).heap.size a0_0 (blk_drew (blk_new (W0.alloc (.cells #[.bool false, .bool false, .bool false, .bool false, .bool false] 107)) (.map nmEs 7)))
  rw [World.size_alloc] at l3
  refine Code.wp_mono (Q := OnN fun a' W => ∃ (gb : Nat) (u6 u7 u8 u9 u10 u11 u12 : Value), a' = { tmps := #[.agg #[.int .i64 a0_0, .int .u64 a0_1, .int .u64 a0_2, .int .u64 a0_3, .int .u64 a0_4, .int .u64 a0_5, .int .u64 a0_6, .bool a0_7, .slice A0_8 l0_8.length c0_8, .string a0_9], .pointer (some ⟨w.heap.size, 0, none⟩), .bool false, .pointer (some ⟨gb, 0, none⟩), .bool (isK a0_0), undef, u6, u7, u8, u9, u10, u11, u12, undef, undef, undef, undef, undef, undef, undef, undef, undef, undef, undef, undef, undef, undef, undef, undef, undef, undef, undef, undef, undef, undef, undef, undef, undef, undef, undef, undef, undef, undef, undef, undef, undef, undef, undef, undef, undef, undef, undef, undef, undef, undef, undef, undef, undef, undef, undef, undef, undef, undef, undef, undef, undef, undef, undef, undef, undef, undef, undef, undef, undef, undef, undef, undef, undef, undef, undef, undef, undef, undef, undef, undef, undef, undef, undef, undef, undef, undef, undef, undef, undef, undef, undef, undef, undef, undef, undef, undef, undef, undef, undef, undef, undef, undef, undef, undef, undef, undef, undef, undef, undef, undef, undef, undef, undef, undef, undef, undef, undef, undef, undef], defers := [] } ∧ Aside0 (W.heap[gb]? = some (.cells #[.bool (hI a0_0), .bool (hC a0_0), .bool (hT a0_0), .bool (hE a0_0), .bool (hS a0_0)] 107 (0, 0))) ∧ Aside0 (W.heap[w.heap.size]? = some (.cells #[.int .i64 a0_0, .int .u64 a0_1, .int .u64 a0_2, .int .u64 a0_3, .int .u64 a0_4, .int .u64 a0_5, .int .u64 a0_6, .bool a0_7, .slice A0_8 l0_8.length c0_8, .string a0_9] 57 (0, 0))) ∧ Aside0 (Below w.heap.size w W) ∧ Aside0 (w.heap.size < gb)) ?c2 ?c1
  case c1 =>
    go_region_with (go_at_call 64; refine (post_names_calls _).mono ?_; rintro e w2 ⟨rfl, rfl⟩)
    all_goals first
      | exact ⟨W0.heap.size + 1, _, _, _, _, _, _, _, rfl, ⟨blk_drew (blk_newAt _ (by simp))⟩, ⟨blk_drew (blk_alloc (blk_alloc hb1 _) _)⟩, ⟨below_drew1 (below_alloc (below_alloc hB0 _) _)⟩, ⟨by omega⟩⟩
      | exact ⟨W0.heap.size, _, _, _, _, _, _, _, rfl, ⟨blk_drew (blk_alloc (blk_new _ _) _)⟩, ⟨blk_drew (blk_alloc (blk_alloc hb1 _) _)⟩, ⟨below_drew1 (below_alloc (below_alloc hB0 _) _)⟩, ⟨by omega⟩⟩
  case c2 =>
    clear l1 l2 l3 y0 zl hb1 hB0
    rintro (_ | _ | _ | _ | _ | _) a' W hQ <;> first | exact hQ.elim | skip
    obtain ⟨gb, u6, u7, u8, u9, u10, u11, u12, rfl, G, B, HB, ZG⟩ := hQ
    dsimp only
    have p0 := blk_cell B.out 0
    have p1 := blk_cell B.out 1
    have p2 := blk_cell B.out 2
    have p3 := blk_cell B.out 3
    have p4 := blk_cell B.out 4
    have p5 := blk_cell B.out 5
    have p6 := blk_cell B.out 6
    have p7 := blk_cell B.out 7
    have p8 := blk_cell B.out 8
    have p9 := blk_cell B.out 9
    have g0 := blk_cell G.out 0
    have g1 := blk_cell G.out 1
    have g2 := blk_cell G.out 2
    have g3 := blk_cell G.out 3
    have g4 := blk_cell G.out 4
    generalize hk : isK a0_0 = ik
    cases ik with
    | false =>
      obtain rfl : false = r := by rw [← HM.out]; unfold mayB; rw [hk]; rfl
      clear hk HM
      go_wp2
      go_ret
      exact ⟨rfl, HB.out⟩
    | true =>
      have HK := Aside0.mk hk
      have hM := HM.out
      unfold mayB at hM
      rw [hk, if_pos rfl] at hM
      clear hk HM
      by_cases c1 : a0_1 < 1
      · rw [if_pos c1] at hM
        subst hM
        have c1b0 : decide (a0_1 < 1) = true := decide_eq_true c1
        clear c1
        go_wp2
        go_ret
        exact ⟨rfl, HB.out⟩
      rw [if_neg c1] at hM
      have c1b0 : decide (a0_1 < 1) = false := decide_eq_false c1
      clear c1
      by_cases c2 : a0_1 > 63
      · rw [if_pos c2] at hM
        subst hM
        have c2b0 : decide (a0_1 > 63) = true := decide_eq_true c2
        have c2b1 : decide (63 < a0_1) = true := decide_eq_true c2
        clear c2
        go_wp2
        go_ret
        exact ⟨rfl, HB.out⟩
      rw [if_neg c2] at hM
      have c2b0 : decide (a0_1 > 63) = false := decide_eq_false c2
      have c2b1 : decide (63 < a0_1) = false := decide_eq_false c2
      clear c2
      by_cases c3 : a0_2 < 1
      · rw [if_pos c3] at hM
        subst hM
        have c3b0 : decide (a0_2 < 1) = true := decide_eq_true c3
        clear c3
        go_wp2
        go_ret
        exact ⟨rfl, HB.out⟩
      rw [if_neg c3] at hM
      have c3b0 : decide (a0_2 < 1) = false := decide_eq_false c3
      clear c3
      by_cases c4 : a0_2 > 63
      · rw [if_pos c4] at hM
        subst hM
        have c4b0 : decide (a0_2 > 63) = true := decide_eq_true c4
        have c4b1 : decide (63 < a0_2) = true := decide_eq_true c4
        clear c4
        go_wp2
        go_ret
        exact ⟨rfl, HB.out⟩
      rw [if_neg c4] at hM
      have c4b0 : decide (a0_2 > 63) = false := decide_eq_false c4
      have c4b1 : decide (63 < a0_2) = false := decide_eq_false c4
      clear c4
      obtain ⟨M, hMx⟩ : ∃ M, mx4 a0_3 a0_4 a0_5 a0_6 = M := ⟨_, rfl⟩
      rw [hMx] at hM
      unfold mx4 at hMx
      have HCF := Aside0.mk (contains_calls A0_8 c0_8 l0_8 W (Kd.C_below HR.out HB.out) HC.out)
      by_cases c5 : M > 4611686018427387903
      · rw [if_pos c5] at hM
        subst hM
        have c5b0 : decide (M > 4611686018427387903) = true := decide_eq_true c5
        have c5b1 : decide (4611686018427387903 < M) = true := decide_eq_true c5
        clear c5
        go_wp2
        go_ret
        exact ⟨rfl, HB.out⟩
      rw [if_neg c5] at hM
      have c5b0 : decide (M > 4611686018427387903) = false := decide_eq_false c5
      have c5b1 : decide (4611686018427387903 < M) = false := decide_eq_false c5
      clear c5
      by_cases c6 : (l0_8.length : Int) > 8
      · rw [if_pos c6] at hM
        subst hM
        have c6b0 : decide ((l0_8.length : Int) > 8) = true := decide_eq_true c6
        have c6b1 : decide (8 < (l0_8.length : Int)) = true := decide_eq_true c6
        clear c6
        go_wp2
        go_ret
        exact ⟨rfl, HB.out⟩
      rw [if_neg c6] at hM
      have c6b0 : decide ((l0_8.length : Int) > 8) = false := decide_eq_false c6
      have c6b1 : decide (8 < (l0_8.length : Int)) = false := decide_eq_false c6
      clear c6
      by_cases c7 : (a0_9.size : Int) > 4096
      · rw [if_pos c7] at hM
        subst hM
        have c7b0 : decide ((a0_9.size : Int) > 4096) = true := decide_eq_true c7
        have c7b1 : decide (4096 < (a0_9.size : Int)) = true := decide_eq_true c7
        clear c7
        go_wp2
        go_ret
        exact ⟨rfl, HB.out⟩
      rw [if_neg c7] at hM
      have c7b0 : decide ((a0_9.size : Int) > 4096) = false := decide_eq_false c7
      have c7b1 : decide (4096 < (a0_9.size : Int)) = false := decide_eq_false c7
      clear c7
      obtain ⟨bo, hbo⟩ : ∃ bo, l0_8.any oddE = bo := ⟨_, rfl⟩
      have HCG := HCF.out
      rw [hbo] at hM HCG
      clear HCF hbo
      cases bo with
      | true =>
        rw [if_pos rfl] at hM
        subst hM
        go_wp2_with fail
        refine HCG.mono ?_
        rintro e w1 ⟨rfl, hb⟩
        have HB1 := Aside0.mk (below_call HB.out hb)
        go_wp2
        go_ret
        exact ⟨rfl, HB1.out⟩
      | false =>
        rw [if_neg (by decide)] at hM
        go_wp2_with fail
        refine HCG.mono ?_
        rintro e w1 ⟨rfl, hb⟩
        have HB1 := Aside0.mk (below_call HB.out hb)
        have B1 := Aside0.mk (blk_below B.out hb)
        have G1 := Aside0.mk (blk_below G.out hb)
        clear hb HCG
        clear p0 p1 p2 p3 p4 p5 p6 p7 p8 p9 g0 g1 g2 g3 g4
        have p0 := blk_cell B1.out 0
        have p1 := blk_cell B1.out 1
        have p2 := blk_cell B1.out 2
        have p3 := blk_cell B1.out 3
        have p4 := blk_cell B1.out 4
        have p5 := blk_cell B1.out 5
        have p6 := blk_cell B1.out 6
        have p7 := blk_cell B1.out 7
        have p8 := blk_cell B1.out 8
        have p9 := blk_cell B1.out 9
        go_upto_region 7 with (fail)
        clear hMx c1b0 c2b0 c2b1 c3b0 c4b0 c4b1 c5b0 c5b1 c6b0 c6b1 c7b0 c7b1 HR HC G B HB ZG
        obtain ⟨x4, hx4⟩ : ∃ x, (a0_4 != 0) = x := ⟨_, rfl⟩
        obtain ⟨x5, hx5⟩ : ∃ x, (a0_5 != 0) = x := ⟨_, rfl⟩
        obtain ⟨x6, hx6⟩ : ∃ x, (a0_6 == 0) = x := ⟨_, rfl⟩
        obtain ⟨xe, hxe⟩ : ∃ x, ((l0_8.length : Int) == 0) = x := ⟨_, rfl⟩
        obtain ⟨xs, hxs⟩ : ∃ x, (a0_9.toList == ([] : List UInt8)) = x := ⟨_, rfl⟩
        unfold mayL mayR at hM
        rw [hx4, hx5, hx6, hxe, hxs] at hM
        have hk7 : a0_0 = 1 ∨ a0_0 = 2 ∨ a0_0 = 3 ∨ a0_0 = 4 ∨ a0_0 = 5 ∨ a0_0 = 6 ∨ a0_0 = 7 := by have := HK.out; unfold isK at this; rw [Bool.and_eq_true, decide_eq_true_iff, decide_eq_true_iff] at this; omega
        clear HK
        rcases hk7 with rfl | rfl | rfl | rfl | rfl | rfl | rfl
        · have G2 : w1.heap[gb]? = some (.cells #[.bool true, .bool false, .bool false, .bool false, .bool false] 107 (0, 0)) := G1.out
          have g0 := blk_cell G2 0
          have g1 := blk_cell G2 1
          have g2 := blk_cell G2 2
          have g3 := blk_cell G2 3
          have g4 := blk_cell G2 4
          clear G2 G1 B1
          cases x6 with
          | true =>
            cases a0_7 with
            | true =>
              obtain rfl : false = r := by rw [← hM]; rfl
              clear hM
              go_wp2
              go_ret
              exact ⟨rfl, HB1.out⟩
            | false =>
              cases xe with
              | true =>
                cases xs with
                | true =>
                  obtain rfl : true = r := by rw [← hM]; rfl
                  clear hM
                  go_wp2
                  go_ret
                  exact ⟨rfl, HB1.out⟩
                | false =>
                  obtain rfl : false = r := by rw [← hM]; rfl
                  clear hM
                  go_wp2
                  go_ret
                  exact ⟨rfl, HB1.out⟩
              | false =>
                obtain rfl : false = r := by rw [← hM]; rfl
                clear hM
                go_wp2
                go_ret
                exact ⟨rfl, HB1.out⟩
          | false =>
            obtain rfl : false = r := by rw [← hM]; rfl
            clear hM
            go_wp2
            go_ret
            exact ⟨rfl, HB1.out⟩
        · have G2 : w1.heap[gb]? = some (.cells #[.bool false, .bool false, .bool true, .bool false, .bool false] 107 (0, 0)) := G1.out
          have g0 := blk_cell G2 0
          have g1 := blk_cell G2 1
          have g2 := blk_cell G2 2
          have g3 := blk_cell G2 3
          have g4 := blk_cell G2 4
          clear G2 G1 B1
          cases x4 with
          | true =>
            obtain rfl : false = r := by rw [← hM]; rfl
            clear hM
            go_wp2
            go_ret
            exact ⟨rfl, HB1.out⟩
          | false =>
            cases x5 with
            | true =>
              obtain rfl : false = r := by rw [← hM]; rfl
              clear hM
              go_wp2
              go_ret
              exact ⟨rfl, HB1.out⟩
            | false =>
              cases x6 with
              | true =>
                cases xe with
                | true =>
                  cases xs with
                  | true =>
                    obtain rfl : true = r := by rw [← hM]; rfl
                    clear hM
                    go_wp2
                    go_ret
                    exact ⟨rfl, HB1.out⟩
                  | false =>
                    obtain rfl : false = r := by rw [← hM]; rfl
                    clear hM
                    go_wp2
                    go_ret
                    exact ⟨rfl, HB1.out⟩
                | false =>
                  obtain rfl : false = r := by rw [← hM]; rfl
                  clear hM
                  go_wp2
                  go_ret
                  exact ⟨rfl, HB1.out⟩
              | false =>
                obtain rfl : false = r := by rw [← hM]; rfl
                clear hM
                go_wp2
                go_ret
                exact ⟨rfl, HB1.out⟩
        · have G2 : w1.heap[gb]? = some (.cells #[.bool true, .bool false, .bool false, .bool false, .bool false] 107 (0, 0)) := G1.out
          have g0 := blk_cell G2 0
          have g1 := blk_cell G2 1
          have g2 := blk_cell G2 2
          have g3 := blk_cell G2 3
          have g4 := blk_cell G2 4
          clear G2 G1 B1
          cases x6 with
          | true =>
            cases a0_7 with
            | true =>
              obtain rfl : false = r := by rw [← hM]; rfl
              clear hM
              go_wp2
              go_ret
              exact ⟨rfl, HB1.out⟩
            | false =>
              cases xe with
              | true =>
                cases xs with
                | true =>
                  obtain rfl : true = r := by rw [← hM]; rfl
                  clear hM
                  go_wp2
                  go_ret
                  exact ⟨rfl, HB1.out⟩
                | false =>
                  obtain rfl : false = r := by rw [← hM]; rfl
                  clear hM
                  go_wp2
                  go_ret
                  exact ⟨rfl, HB1.out⟩
              | false =>
                obtain rfl : false = r := by rw [← hM]; rfl
                clear hM
                go_wp2
                go_ret
                exact ⟨rfl, HB1.out⟩
          | false =>
            obtain rfl : false = r := by rw [← hM]; rfl
            clear hM
            go_wp2
            go_ret
            exact ⟨rfl, HB1.out⟩
        · have G2 : w1.heap[gb]? = some (.cells #[.bool false, .bool false, .bool true, .bool false, .bool false] 107 (0, 0)) := G1.out
          have g0 := blk_cell G2 0
          have g1 := blk_cell G2 1
          have g2 := blk_cell G2 2
          have g3 := blk_cell G2 3
          have g4 := blk_cell G2 4
          clear G2 G1 B1
          cases x4 with
          | true =>
            obtain rfl : false = r := by rw [← hM]; rfl
            clear hM
            go_wp2
            go_ret
            exact ⟨rfl, HB1.out⟩
          | false =>
            cases x5 with
            | true =>
              obtain rfl : false = r := by rw [← hM]; rfl
              clear hM
              go_wp2
              go_ret
              exact ⟨rfl, HB1.out⟩
            | false =>
              cases x6 with
              | true =>
                cases xe with
                | true =>
                  cases xs with
                  | true =>
                    obtain rfl : true = r := by rw [← hM]; rfl
                    clear hM
                    go_wp2
                    go_ret
                    exact ⟨rfl, HB1.out⟩
                  | false =>
                    obtain rfl : false = r := by rw [← hM]; rfl
                    clear hM
                    go_wp2
                    go_ret
                    exact ⟨rfl, HB1.out⟩
                | false =>
                  obtain rfl : false = r := by rw [← hM]; rfl
                  clear hM
                  go_wp2
                  go_ret
                  exact ⟨rfl, HB1.out⟩
              | false =>
                obtain rfl : false = r := by rw [← hM]; rfl
                clear hM
                go_wp2
                go_ret
                exact ⟨rfl, HB1.out⟩
        · have G2 : w1.heap[gb]? = some (.cells #[.bool true, .bool true, .bool false, .bool true, .bool false] 107 (0, 0)) := G1.out
          have g0 := blk_cell G2 0
          have g1 := blk_cell G2 1
          have g2 := blk_cell G2 2
          have g3 := blk_cell G2 3
          have g4 := blk_cell G2 4
          clear G2 G1 B1
          cases a0_7 with
          | true =>
            obtain rfl : false = r := by rw [← hM]; rfl
            clear hM
            go_wp2
            go_ret
            exact ⟨rfl, HB1.out⟩
          | false =>
            cases xs with
            | true =>
              obtain rfl : true = r := by rw [← hM]; rfl
              clear hM
              go_wp2
              go_ret
              exact ⟨rfl, HB1.out⟩
            | false =>
              obtain rfl : false = r := by rw [← hM]; rfl
              clear hM
              go_wp2
              go_ret
              exact ⟨rfl, HB1.out⟩
        · have G2 : w1.heap[gb]? = some (.cells #[.bool true, .bool false, .bool false, .bool false, .bool true] 107 (0, 0)) := G1.out
          have g0 := blk_cell G2 0
          have g1 := blk_cell G2 1
          have g2 := blk_cell G2 2
          have g3 := blk_cell G2 3
          have g4 := blk_cell G2 4
          clear G2 G1 B1
          cases x6 with
          | true =>
            cases a0_7 with
            | true =>
              obtain rfl : false = r := by rw [← hM]; rfl
              clear hM
              go_wp2
              go_ret
              exact ⟨rfl, HB1.out⟩
            | false =>
              cases xe with
              | true =>
                obtain rfl : true = r := by rw [← hM]; rfl
                clear hM
                go_wp2
                go_ret
                exact ⟨rfl, HB1.out⟩
              | false =>
                obtain rfl : false = r := by rw [← hM]; rfl
                clear hM
                go_wp2
                go_ret
                exact ⟨rfl, HB1.out⟩
          | false =>
            obtain rfl : false = r := by rw [← hM]; rfl
            clear hM
            go_wp2
            go_ret
            exact ⟨rfl, HB1.out⟩
        · have G2 : w1.heap[gb]? = some (.cells #[.bool true, .bool false, .bool true, .bool false, .bool false] 107 (0, 0)) := G1.out
          have g0 := blk_cell G2 0
          have g1 := blk_cell G2 1
          have g2 := blk_cell G2 2
          have g3 := blk_cell G2 3
          have g4 := blk_cell G2 4
          clear G2 G1 B1
          cases x5 with
          | true =>
            obtain rfl : false = r := by rw [← hM]; rfl
            clear hM
            go_wp2
            go_ret
            exact ⟨rfl, HB1.out⟩
          | false =>
            cases x6 with
            | true =>
              cases xe with
              | true =>
                cases xs with
                | true =>
                  obtain rfl : true = r := by rw [← hM]; rfl
                  clear hM
                  go_wp2
                  go_ret
                  exact ⟨rfl, HB1.out⟩
                | false =>
                  obtain rfl : false = r := by rw [← hM]; rfl
                  clear hM
                  go_wp2
                  go_ret
                  exact ⟨rfl, HB1.out⟩
              | false =>
                obtain rfl : false = r := by rw [← hM]; rfl
                clear hM
                go_wp2
                go_ret
                exact ⟨rfl, HB1.out⟩
            | false =>
              obtain rfl : false = r := by rw [← hM]; rfl
              clear hM
              go_wp2
              go_ret
              exact ⟨rfl, HB1.out⟩
end Go.Proofs.Ytfjhlcbpogihmaa.Pr
