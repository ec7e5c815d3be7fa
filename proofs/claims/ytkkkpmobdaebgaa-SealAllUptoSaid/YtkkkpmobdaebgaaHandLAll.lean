/- The law SealAll: what it computes, and that it does. Conditions: none. -/
import Derived.Test.YtkkkpmobdaebgaaHandWhole2
import Derived.Test.YtkkkpmobdaebgaaPr2
import Derived.Test.YtkkkpmobdaebgaaPr15
import Derived.LoopNIn
namespace Go.Proofs.Ytkkkpmobdaebgaa.Pr
open Go.RowKit Go.Shelf Go.Proofs.YtkkkpmobdaebgaaW.PrintWords Go.Proofs.YtkkkpmobdaebgaaW.PrintLast Go.Proofs.YtkkkpmobdaebgaaW.PrintMore Go.Proofs.Ytkkkpmobdaebgaa.Hnd
attribute [local go_sem] Oper.semAt_some
set_option linter.unusedVariables false
set_option linter.unusedSimpArgs false
def ferrulelaw02_SealAll.f (k : Nat) (b : ByteArray) (most : Int) : Option Bool :=
  ferrulelaw02_shown.f.bind fun up => if up = true then (ferruleref02_All.f k b).bind fun q => (allF k (b.size + 1) b).bind fun L => if q.1 = L ∧ L.length < 4611686018427387904 then some (wholeN L == q.2) else none else none
theorem ferrulelaw02_SealAll.mono : ∀ a0 a1 k, LeO (ferrulelaw02_SealAll.f k a0 a1) (ferrulelaw02_SealAll.f (k + 1) a0 a1) := fun b m k =>
  LeO.bind (LeO.refl _) (fun _ => LeO.ite (LeO.bind (ferruleref02_All.mono _ _) (fun _ => LeO.bind (allF_mono k _ _) (fun _ => LeO.refl _))) (LeO.refl _))
theorem wrap64_in3 {x : Int} (h0 : -9223372036854775808 ≤ x) (h1 : x < 9223372036854775808) : wrap64 x = x := by
  simp [wrap64]
  omega
set_option maxRecDepth 100000 in
set_option maxHeartbeats 4000000 in
theorem all_law_in (k n : Nat) (hn : 5 ≤ n) (b : ByteArray) (most : Int) (r : Bool) (w : World) (h : ferrulelaw02_SealAll.f k b most = some r) :
    CallsIn Fence.wide n Try.prog 8 #[.string b, .int .i64 most] w fun e w' => e = .returned (.bool r) ∧ Below w.heap.size w w' := by
  have h1 : 1 ≤ n := by omega
  unfold ferrulelaw02_SealAll.f at h
  obtain ⟨up, hS, h⟩ := Option.bind_eq_some_iff.mp h
  by_cases hup : up = true
  rotate_left
  · rw [if_neg hup] at h; cases h
  rw [if_pos hup] at h
  subst hup
  obtain ⟨⟨L0, n0⟩, hR, h⟩ := Option.bind_eq_some_iff.mp h
  obtain ⟨L, hL, h⟩ := Option.bind_eq_some_iff.mp h
  by_cases hp : L0 = L ∧ L.length < 4611686018427387904
  rotate_left
  · dsimp only at h; rw [if_neg hp] at h; cases h
  dsimp only at h
  rw [if_pos hp] at h
  obtain rfl := Option.some.inj h
  obtain ⟨rfl, hll⟩ := hp
  have HS := Aside0.mk hS
  have HR := Aside0.mk hR
  have HLL := Aside0.mk hll
  clear h hS hR hll
  refine callsIn_of_wp_marks Try.func8 rfl trivial ?_ rfl
  simp only [Try.ntmps8, List.size_toArray, List.length_cons, List.length_nil, Nat.reduceAdd, Nat.reduceSub, Array.replicate_succ, Array.replicate_zero, List.push_toArray, List.append_toArray, List.nil_append, List.cons_append]
  gi_wp2
  refine ⟨trivial, ((callsIn_wide (n := n - 1)).2 (ferrulelaw02_shown.calls true _ HS.out)).mono ?_⟩
  rintro e w1 ⟨rfl, hb⟩
  have BM := Aside0.mk (blk_below (blk_alloc (blk_new w (.cells #[.int .i64 most] 3)) (.cells #[.bool false] 4)) hb)
  have BR := Aside0.mk (blk_below (blk_new (w.alloc (.cells #[.int .i64 most] 3)) (.cells #[.bool false] 4)) hb)
  have HB := Aside0.mk (below_call (below_alloc (below_alloc (Below.refl w.heap.size w) (.cells #[.int .i64 most] 3)) (.cells #[.bool false] 4)) hb)
  rw [World.size_alloc] at BR
  clear hb
  gi_wp2
  refine ⟨trivial, ((callsIn_wide (n := n - 1)).2 (ferruleref02_All.calls k b L0 n0 _ HR.out)).mono ?_⟩
  rintro e w2 ⟨v0, rfl, ho, hb⟩
  obtain ⟨A, c, rfl, hc, hC⟩ := Kd.R_reads ho
  have BM2 := Aside0.mk (blk_below BM.out hb)
  have BR2 := Aside0.mk (blk_below BR.out hb)
  have HB2 := Aside0.mk (below_call HB.out hb)
  have HC := Aside0.mk hC
  clear ho hC hb
  gi_wp2
  refine wpIn_loop_rounds 3 ?_
  rw [roundsIn_succ]
  gi_wp2
  refine ⟨trivial, (all_in (n - 1) b _).mono ?_⟩
  rintro e w' ⟨rfl, rfl⟩
  gi_wp2
  rename_i Ka hKa Kb hKb Kc hKc
  have bV := World.alloc_heap_new ((w2.alloc (.cells #[.slice A L0.length c] 41)).alloc (.cells #[.int .i64 0] 3)) (.cells #[.int .i64 0] 3)
  have bT := World.alloc_heap_new (w2.alloc (.cells #[.slice A L0.length c] 41)) (.cells #[.int .i64 0] 3)
  have bL := World.alloc_heap_new w2 (.cells #[.slice A L0.length c] 41)
  have bS := World.alloc_heap_new (((w2.alloc (.cells #[.slice A L0.length c] 41)).alloc (.cells #[.int .i64 0] 3)).alloc (.cells #[.int .i64 0] 3)) (.cells #[.string b] 9)
  have bV := blk_alloc bV (.cells #[.string b] 9)
  have bT := blk_alloc (blk_alloc bT (.cells #[.int .i64 0] 3)) (.cells #[.string b] 9)
  have bL := blk_alloc (blk_alloc (blk_alloc bL (.cells #[.int .i64 0] 3)) (.cells #[.int .i64 0] 3)) (.cells #[.string b] 9)
  simp only [World.size_alloc] at bV bT bS
  have HB0 := Aside0.mk (below_alloc (below_alloc (below_alloc (below_alloc (Below.refl w2.heap.size w2) (.cells #[.slice A L0.length c] 41)) (.cells #[.int .i64 0] 3)) (.cells #[.int .i64 0] 3)) (.cells #[.string b] 9))
  have hsz : ((((w2.alloc (.cells #[.slice A L0.length c] 41)).alloc (.cells #[.int .i64 0] 3)).alloc (.cells #[.int .i64 0] 3)).alloc (.cells #[.string b] 9)).heap.size = w2.heap.size + 4 := by simp
  obtain ⟨W0, hW0⟩ : ∃ W0, ((((w2.alloc (.cells #[.slice A L0.length c] 41)).alloc (.cells #[.int .i64 0] 3)).alloc (.cells #[.int .i64 0] 3)).alloc (.cells #[.string b] 9)) = W0 := ⟨_, rfl⟩
  rw [hW0] at bV bT bL bS HB0 hsz ⊢
  clear hW0
  have BT := Aside0.mk bT
  have BL := Aside0.mk bL
  have hbm := blk_lt BM2.out
  have hbr := blk_lt BR2.out
  clear bT bL
  refine wpIn_mono (Q := fun e a' W => (e = .normal ∨ e = .exit 2) ∧ ∃ (D cnt : Nat), a' = { tmps := #[.string b, .int .i64 most, undef, .pointer (some ⟨w.heap.size, 0, none⟩), .pointer (some ⟨w.heap.size + 1, 0, none⟩), .bool true, .pointer (some ⟨w2.heap.size, 0, none⟩), .int .i64 n0, .pointer (some ⟨w2.heap.size + 1, 0, none⟩), .pointer (some ⟨w2.heap.size + 1 + 1, 0, none⟩), undef, .bool true, .bool true, .bool false, .tuple #[.slice A L0.length c, .int .i64 n0], .string b, .tuple #[.slice A L0.length c, .int .i64 n0], .slice A L0.length c, .int .i64 n0, .int .i64 0, .bool true, undef, undef, .string b, .func (.func 29) #[] #[.pointer (some ⟨w2.heap.size + 1 + 1 + 1, 0, none⟩)], undef, undef, undef, undef, undef, undef, undef, undef, undef, undef, undef, undef, undef, undef, undef, undef, undef, undef, undef, undef, undef, undef, undef, undef, undef, undef, undef, undef, undef, undef, undef, undef, undef, undef, undef, undef, undef, undef, undef, undef, undef, undef, undef, undef, undef], defers := [{ target := .collected D, args := #[] }] } ∧ Aside0 (W0.heap.size ≤ D ∧ W.heap[D]? = some (.deferred (some [])) ∧ cnt ≤ L0.length ∧ (cnt = L0.length ∨ (0 < cnt ∧ (cnt : Int) = most))) ∧ Aside0 (W.heap[w2.heap.size + 1 + 1]? = some (.cells #[.int .i64 (cnt : Int)] 3 (0, 0))) ∧ Aside0 (Below (w2.heap.size + 2) W0 W)) ?first ?second
  case first =>
    refine wpIn_rangeFunc_ownH rfl h1 (gf := 29) (lb := #[.pointer (some ⟨w2.heap.size + 1 + 1 + 1, 0, none⟩)]) rfl trivial (enters_of Try.func29 (by kernel_rfl) rfl)
      (all_stops k (b.size + 1) (n - 1) (by omega) (w2.heap.size + 1 + 1 + 1) b L0 hL W0 bS)
      (fun _ _ => trivial) (fun _ _ _ _ _ _ _ _ => trivial) (Below.refl _ _) (fun _ => rfl)
      (fun pre W => W.heap[w2.heap.size + 1 + 1]? = some (.cells #[.int .i64 (pre.length : Int)] 3 (0, 0)) ∧ Below (w2.heap.size + 2) W0 W)
      (fun c_ pre W => (c_ = .ret ∧ ∃ j, j < pre.length ∧ pre[j]? ≠ L0[j]?) ∨ (c_ = .exit 2 ∧ (pre.length : Int) = most ∧ 0 < pre.length ∧ W.heap[w2.heap.size + 1 + 1]? = some (.cells #[.int .i64 (pre.length : Int)] 3 (0, 0)) ∧ Below (w2.heap.size + 2) W0 W))
      (fun (s : List ByteArray) A_ B_ row hs hg hr => ⟨blk_grown hs.1 hg (fun e => by have := (hr _ e.symm).1; omega), hs.2.grown hg (by have := hs.2.size; omega) (fun k e => by have := (hr _ e).1; omega)⟩)
      (fun c_ (s : List ByteArray) A_ B_ row hs hg hr => hs.imp (fun h => h) (fun h => ⟨h.1, h.2.1, h.2.2.1, blk_grown h.2.2.2.1 hg (fun e => by have := (hr _ e.symm).1; omega), h.2.2.2.2.grown hg (by have := h.2.2.2.2.size; omega) (fun k e => by have := (hr _ e).1; omega)⟩))
      ⟨bV, Below.refl _ _⟩
      (fun x a' W => a' = { tmps := #[.string b, .int .i64 most, undef, .pointer (some ⟨w.heap.size, 0, none⟩), .pointer (some ⟨w.heap.size + 1, 0, none⟩), .bool true, .pointer (some ⟨w2.heap.size, 0, none⟩), .int .i64 n0, .pointer (some ⟨w2.heap.size + 1, 0, none⟩), .pointer (some ⟨w2.heap.size + 1 + 1, 0, none⟩), .string x, .bool true, .bool true, .bool false, .tuple #[.slice A L0.length c, .int .i64 n0], .string b, .tuple #[.slice A L0.length c, .int .i64 n0], .slice A L0.length c, .int .i64 n0, .int .i64 0, .bool true, undef, undef, .string b, .func (.func 29) #[] #[.pointer (some ⟨w2.heap.size + 1 + 1 + 1, 0, none⟩)], .string x, undef, undef, undef, undef, undef, undef, undef, undef, undef, undef, undef, undef, undef, undef, undef, undef, undef, undef, undef, undef, undef, undef, undef, undef, undef, undef, undef, undef, undef, undef, undef, undef, undef, undef, undef, undef, undef, undef, undef, undef, undef, undef, undef, undef], defers := [] })
      (fun x a' s A B row hs hg hr => hs) ?assign ?body ?done ?stop
    case assign =>
      rintro l pre x W K hI hK
      gi_wp2
      exact hK _ _ ((KeepsOthers.refl _).from _) trivial hI rfl
    case body =>
      rintro lp pre x a' W hl ⟨r, hr⟩ ⟨i0, i1⟩ rfl hlt
      have hd : 1 ≤ n - 1 - 1 := by omega
      have bl := (i1.block _ (by omega)).trans BL.out
      have bt := (i1.block _ (by omega)).trans BT.out
      have HW := Aside0.mk (HB0.out.trans (i1.mono (by omega)))
      have bm := blk_below BM2.out HW.out
      have br := blk_below BR2.out HW.out
      have y0 := blk_cell i0 0
      have y1 := blk_frozen i0 0
      have y2 := blk_cell bl 0
      have y3 := blk_cell br 0
      have y4 := blk_frozen br 0
      have y5 := blk_cell bt 0
      have y6 := blk_cell bm 0
      by_cases hlt2 : (pre.length : Int) < (L0.length : Int)
      rotate_left
      · exact absurd hlt2 (by omega)
      have hltb : decide ((pre.length : Int) ≥ (L0.length : Int)) = false := decide_eq_false (by omega)
      have hltc : decide ((L0.length : Int) ≤ (pre.length : Int)) = false := decide_eq_false (by omega)
      obtain ⟨ad, hA, e0⟩ := Kd.at_string (Kd.C_below HC.out HW.out) (pre.length : Int) (by omega) hlt2
      subst hA
      simp only [Int.toNat_natCast] at e0
      obtain ⟨y, hy⟩ : ∃ y, rdOf ByteArray.empty L0 (pre.length : Int) = y := ⟨_, rfl⟩
      rw [hy] at e0
      have hwp : wrap64 ((pre.length : Int) + 1) = ((pre.length + 1 : Nat) : Int) := by rw [wrap64_in3 (by omega) (by have := HLL.out; omega)]; rfl
      by_cases hxy : y.toList = x.toList
      · have hb1 : (y.toList == x.toList) = true := beq_iff_eq.mpr hxy
        have hb2 : (y.toList != x.toList) = false := bne_eq_false_iff_eq.mpr hxy
        by_cases hm : ((pre.length + 1 : Nat) : Int) = most
        · have hmb : (((pre.length + 1 : Nat) : Int) == most) = true := beq_iff_eq.mpr hm
          gi_wp2
          refine ⟨(KeepsOthers.setCell _ _ _).from _, .inr ⟨rfl, by rw [List.length_append, List.length_singleton]; exact hm, by simp, ?_, i1.setCell (by show w2.heap.size + 2 ≤ w2.heap.size + 1 + 1; omega) _⟩⟩
          refine blk_put i0 0 _ ?_
          rw [List.length_append, List.length_singleton, hm]
          rfl
        · have hmb : (((pre.length + 1 : Nat) : Int) == most) = false := beq_eq_false_iff_ne.mpr hm
          gi_wp2
          refine ⟨(KeepsOthers.setCell _ _ _).from _, trivial, ?_, i1.setCell (by show w2.heap.size + 2 ≤ w2.heap.size + 1 + 1; omega) _⟩
          refine blk_put i0 0 _ ?_
          rw [List.length_append, List.length_singleton]
          rfl
      · have hb1 : (y.toList == x.toList) = false := beq_eq_false_iff_ne.mpr hxy
        have hb2 : (y.toList != x.toList) = true := bne_iff_ne.mpr hxy
        gi_wp2
        refine ⟨(KeepsOthers.setCell _ _ _).from _, .inl ⟨rfl, pre.length, by rw [List.length_append, List.length_singleton]; omega, ?_⟩⟩
        intro he
        rw [List.getElem?_append_right (Nat.le_refl _), Nat.sub_self, List.getElem?_eq_getElem (show pre.length < L0.length by omega)] at he
        injection he with he
        apply hxy
        rw [← hy]
        unfold rdOf
        rw [Int.toNat_natCast, List.getD_eq_getElem?_getD, List.getElem?_eq_getElem (show pre.length < L0.length by omega), Option.getD_some, ← he]
    case done =>
      rintro D ys W hD hys ⟨i0, i1⟩ hK
      subst hys
      exact ⟨.inl rfl, D, ys.length, rfl, ⟨hD, hK, Nat.le_refl _, .inl rfl⟩, ⟨i0⟩, ⟨i1⟩⟩
    case stop =>
      rintro D cc pre W hD hpre (⟨rfl, j, hj1, hj3⟩ | ⟨rfl, hm, hpos, i0, i1⟩) hK
      · obtain ⟨t1, e1⟩ := hpre
        refine absurd ?_ hj3
        have a1 : (pre ++ t1)[j]? = pre[j]? := List.getElem?_append_left hj1
        rw [← a1, e1]
      · gi_wp2
        obtain ⟨t1, e1⟩ := hpre
        exact ⟨pre.length, ⟨by omega, by rw [← e1, List.length_append]; omega, .inr ⟨hpos, hm⟩⟩, ⟨hm.symm⟩, ⟨trivial⟩⟩
  case second =>
    rintro e a' W ⟨he, D, cnt, rfl, HD, HI, HW⟩
    obtain ⟨hD1, hD2, hD3, hD4⟩ := HD.out
    have i0 := HI.out
    have i1 := HW.out
    have bl := (i1.block _ (by omega)).trans BL.out
    have bt := (i1.block _ (by omega)).trans BT.out
    have HWW := Aside0.mk (HB0.out.trans (i1.mono (by omega)))
    have bm := blk_below BM2.out HWW.out
    have br := blk_below BR2.out HWW.out
    have y0 := blk_cell i0 0
    have y2 := blk_cell bl 0
    have y3 := blk_cell br 0
    have y4 := blk_frozen br 0
    have y5 := blk_cell bt 0
    have y6 := blk_cell bm 0
    have hg1 : (decide (most < 1) || decide (most > (L0.length : Int))) = true → cnt = L0.length := by
      intro h_
      rw [Bool.or_eq_true, decide_eq_true_iff, decide_eq_true_iff] at h_
      omega
    clear hg1
    have KEY : Kc { tmps := #[.string b, .int .i64 most, undef, .pointer (some ⟨w.heap.size, 0, none⟩), .pointer (some ⟨w.heap.size + 1, 0, none⟩), .bool true, .pointer (some ⟨w2.heap.size, 0, none⟩), .int .i64 n0, .pointer (some ⟨w2.heap.size + 1, 0, none⟩), .pointer (some ⟨w2.heap.size + 1 + 1, 0, none⟩), undef, .bool true, .bool true, .bool false, .tuple #[.slice A L0.length c, .int .i64 n0], .string b, .tuple #[.slice A L0.length c, .int .i64 n0], .slice A L0.length c, .int .i64 n0, .int .i64 0, .bool true, undef, undef, .string b, .func (.func 29) #[] #[.pointer (some ⟨w2.heap.size + 1 + 1 + 1, 0, none⟩)], undef, undef, undef, undef, undef, undef, undef, undef, undef, undef, undef, undef, undef, undef, undef, undef, undef, undef, undef, undef, undef, undef, undef, undef, undef, undef, undef, undef, undef, undef, undef, undef, undef, undef, undef, undef, undef, undef, undef, undef, undef, undef, undef, undef, undef], defers := [{ target := .collected D, args := #[] }] } W := by
      refine hKc _ _ ?_
      refine wpIn_mono (Q := fun e a' W' => e = .normal ∧ W' = W ∧ ∃ (u47 u48 u49 u50 u51 u52 u53 u54 u55 u56 u57 u58 u59 u60 u61 u62 u63 u64 : Value), a' = { tmps := #[.string b, .int .i64 most, undef, .pointer (some ⟨w.heap.size, 0, none⟩), .pointer (some ⟨w.heap.size + 1, 0, none⟩), .bool true, .pointer (some ⟨w2.heap.size, 0, none⟩), .int .i64 n0, .pointer (some ⟨w2.heap.size + 1, 0, none⟩), .pointer (some ⟨w2.heap.size + 1 + 1, 0, none⟩), undef, .bool true, .bool true, .bool false, .tuple #[.slice A L0.length c, .int .i64 n0], .string b, .tuple #[.slice A L0.length c, .int .i64 n0], .slice A L0.length c, .int .i64 n0, .int .i64 0, .bool true, undef, undef, .string b, .func (.func 29) #[] #[.pointer (some ⟨w2.heap.size + 1 + 1 + 1, 0, none⟩)], undef, undef, undef, undef, undef, undef, undef, undef, undef, undef, undef, undef, undef, undef, undef, undef, undef, undef, undef, undef, undef, undef, u47, u48, u49, u50, u51, u52, u53, u54, u55, u56, u57, u58, u59, u60, u61, u62, u63, u64, undef, undef, undef, undef, undef], defers := [{ target := .collected D, args := #[] }] }) ?c1 ?c2
      case c1 =>
        by_cases hq1 : most < 1
        · have hq1b := decide_eq_true hq1
          have hc0 : cnt = L0.length := by omega
          subst hc0
          gi_wp2
          all_goals trace_state
          all_goals sorry
        · have hq1b := decide_eq_false hq1
          by_cases hq2 : (L0.length : Int) < most
          · have hq2b := decide_eq_true hq2
            have hq2c : decide (most > (L0.length : Int)) = true := decide_eq_true hq2
            have hc0 : cnt = L0.length := by omega
            subst hc0
            gi_wp2
            all_goals trace_state
            all_goals sorry
          · have hq2b := decide_eq_false hq2
            have hq2c : decide (most > (L0.length : Int)) = false := decide_eq_false hq2
            gi_wp2
            all_goals trace_state
            all_goals sorry
      case c2 =>
        clear he
        rintro e a' W' ⟨rfl, rfl, u47, u48, u49, u50, u51, u52, u53, u54, u55, u56, u57, u58, u59, u60, u61, u62, u63, u64, rfl⟩
        gi_wp2
        rw [roundsIn_succ]
        gi_wp2
        refine ⟨trivial, (all_in (n - 1) b _).mono ?_⟩
        rintro e w' ⟨rfl, rfl⟩
        gi_wp2
        have bV20 := World.alloc_heap_new (W'.alloc (.cells #[.int .i64 1] 3)) (.cells #[.int .i64 0] 3)
        have bT20 := World.alloc_heap_new W' (.cells #[.int .i64 1] 3)
        have bS2 := World.alloc_heap_new ((W'.alloc (.cells #[.int .i64 1] 3)).alloc (.cells #[.int .i64 0] 3)) (.cells #[.string b] 9)
        have bV2 := blk_alloc bV20 (.cells #[.string b] 9)
        have bT2 := blk_alloc (blk_alloc bT20 (.cells #[.int .i64 0] 3)) (.cells #[.string b] 9)
        simp only [World.size_alloc] at bV2 bT2 bS2
        clear bV20 bT20
        have HB2' := Aside0.mk (below_alloc (below_alloc (below_alloc (Below.refl W'.heap.size W') (.cells #[.int .i64 1] 3)) (.cells #[.int .i64 0] 3)) (.cells #[.string b] 9))
        have hsz2 : (((W'.alloc (.cells #[.int .i64 1] 3)).alloc (.cells #[.int .i64 0] 3)).alloc (.cells #[.string b] 9)).heap.size = W'.heap.size + 3 := by simp
        obtain ⟨W3, hW3⟩ : ∃ W3, (((W'.alloc (.cells #[.int .i64 1] 3)).alloc (.cells #[.int .i64 0] 3)).alloc (.cells #[.string b] 9)) = W3 := ⟨_, rfl⟩
        rw [hW3] at bV2 bT2 bS2 HB2' hsz2 ⊢
        clear hW3
        have BT2 := Aside0.mk bT2
        have BL2 := Aside0.mk (blk_below bl HB2'.out)
        have BR3 := Aside0.mk (blk_below br HB2'.out)
        have hdl := (Array.getElem?_eq_some_iff.1 hD2).1
        have HK3 := Aside0.mk ((HB2'.out.block D hdl).trans hD2)
        have hsW := HW.out.size
        clear i0 i1
        have HCC := Aside0.mk (HWW.out.trans (HB2'.out.mono (by have := HWW.out.size; omega)))
        clear bT2 bl br bt bm y0 y2 y3 y4 y5 y6 hD2 hD3 hD4 HI bS
        refine wpIn_mono (Q := fun e a' W => e = .normal ∧ ∃ (D2 : Nat), a' = { tmps := #[.string b, .int .i64 most, undef, .pointer (some ⟨w.heap.size, 0, none⟩), .pointer (some ⟨w.heap.size + 1, 0, none⟩), .bool true, .pointer (some ⟨w2.heap.size, 0, none⟩), .int .i64 n0, .pointer (some ⟨W'.heap.size, 0, none⟩), .pointer (some ⟨W'.heap.size + 1, 0, none⟩), undef, .bool true, .bool true, .bool false, .tuple #[.slice A L0.length c, .int .i64 n0], .string b, .tuple #[.slice A L0.length c, .int .i64 n0], .slice A L0.length c, .int .i64 n0, .int .i64 1, .bool true, .int .i64 0, .int .i64 1, .string b, .func (.func 29) #[] #[.pointer (some ⟨W'.heap.size + 1 + 1, 0, none⟩)], undef, undef, undef, undef, undef, undef, undef, undef, undef, undef, undef, undef, undef, undef, undef, undef, undef, undef, undef, undef, undef, undef, u47, u48, u49, u50, u51, u52, u53, u54, u55, u56, u57, u58, u59, u60, u61, u62, u63, u64, .int .i64 0, undef, undef, undef, undef], defers := [{ target := .collected D2, args := #[] }, { target := .collected D, args := #[] }] } ∧ Aside0 (W3.heap.size ≤ D2 ∧ W.heap[D2]? = some (.deferred (some []))) ∧ Aside0 (W.heap[W'.heap.size + 1]? = some (.cells #[.int .i64 (L0.length : Int)] 3 (0, 0))) ∧ Aside0 (Below (W'.heap.size + 1) W3 W)) ?first2 ?second2
        case first2 =>
          refine wpIn_rangeFunc_ownH rfl h1 (gf := 29) (lb := #[.pointer (some ⟨W'.heap.size + 1 + 1, 0, none⟩)]) rfl trivial (enters_of Try.func29 (by kernel_rfl) rfl)
            (all_stops k (b.size + 1) (n - 1) (by omega) (W'.heap.size + 1 + 1) b L0 hL W3 bS2)
            (fun _ _ => trivial) (fun _ _ _ _ _ _ _ _ => trivial) (Below.refl _ _) (fun _ => rfl)
            (fun pre W => W.heap[W'.heap.size + 1]? = some (.cells #[.int .i64 (pre.length : Int)] 3 (0, 0)) ∧ Below (W'.heap.size + 1) W3 W)
            (fun c_ pre W => (c_ = .ret ∧ ∃ j, j < pre.length ∧ pre[j]? ≠ L0[j]?))
            (fun (s : List ByteArray) A_ B_ row hs hg hr => ⟨blk_grown hs.1 hg (fun e => by have := (hr _ e.symm).1; omega), hs.2.grown hg (by have := hs.2.size; omega) (fun k e => by have := (hr _ e).1; omega)⟩)
            (fun _ _ _ _ _ hs _ _ => hs)
            ⟨bV2, Below.refl _ _⟩
            (fun x a' W => a' = { tmps := #[.string b, .int .i64 most, undef, .pointer (some ⟨w.heap.size, 0, none⟩), .pointer (some ⟨w.heap.size + 1, 0, none⟩), .bool true, .pointer (some ⟨w2.heap.size, 0, none⟩), .int .i64 n0, .pointer (some ⟨W'.heap.size, 0, none⟩), .pointer (some ⟨W'.heap.size + 1, 0, none⟩), .string x, .bool true, .bool true, .bool false, .tuple #[.slice A L0.length c, .int .i64 n0], .string b, .tuple #[.slice A L0.length c, .int .i64 n0], .slice A L0.length c, .int .i64 n0, .int .i64 1, .bool true, .int .i64 0, .int .i64 1, .string b, .func (.func 29) #[] #[.pointer (some ⟨W'.heap.size + 1 + 1, 0, none⟩)], .string x, undef, undef, undef, undef, undef, undef, undef, undef, undef, undef, undef, undef, undef, undef, undef, undef, undef, undef, undef, undef, undef, u47, u48, u49, u50, u51, u52, u53, u54, u55, u56, u57, u58, u59, u60, u61, u62, u63, u64, .int .i64 0, undef, undef, undef, undef], defers := [] })
            (fun x a' s A B row hs hg hr => hs) ?assign ?body ?done ?stop
          case assign =>
            rintro l pre x W K hI hK
            gi_wp2
            exact hK _ _ ((KeepsOthers.refl _).from _) trivial hI rfl
          case body =>
            rintro lp pre x a' W hl ⟨r, hr⟩ ⟨i0, i1⟩ rfl hlt
            have hd : 1 ≤ n - 1 - 1 := by omega
            have hsb := (Array.getElem?_eq_some_iff.1 BL2.out).1
            have bt := (i1.block _ (by omega)).trans BT2.out
            have HW := Aside0.mk (HB2'.out.trans (i1.mono (by omega)))
            have bl := (i1.block _ (by have := HWW.out.size; omega)).trans BL2.out
            have br := (i1.block _ (by have := HWW.out.size; omega)).trans BR3.out
            have y0 := blk_cell i0 0
            have y1 := blk_frozen i0 0
            have y2 := blk_cell bl 0
            have y3 := blk_cell br 0
            have y4 := blk_frozen br 0
            have y5 := blk_cell bt 0
            by_cases hlt2 : (pre.length : Int) < (L0.length : Int)
            rotate_left
            · exact absurd hlt2 (by omega)
            have hltb : decide ((pre.length : Int) ≥ (L0.length : Int)) = false := decide_eq_false (by omega)
            have hltc : decide ((L0.length : Int) ≤ (pre.length : Int)) = false := decide_eq_false (by omega)
            obtain ⟨ad, hA, e0⟩ := Kd.at_string (Kd.C_below HC.out (HWW.out.trans (HW.out.mono HWW.out.size))) (pre.length : Int) (by omega) hlt2
            subst hA
            simp only [Int.toNat_natCast] at e0
            obtain ⟨y, hy⟩ : ∃ y, rdOf ByteArray.empty L0 (pre.length : Int) = y := ⟨_, rfl⟩
            rw [hy] at e0
            have hwp : wrap64 ((pre.length : Int) + 1) = ((pre.length + 1 : Nat) : Int) := by rw [wrap64_in3 (by omega) (by have := HLL.out; omega)]; rfl
            by_cases hxy : y.toList = x.toList
            · have hb1 : (y.toList == x.toList) = true := beq_iff_eq.mpr hxy
              have hb2 : (y.toList != x.toList) = false := bne_eq_false_iff_eq.mpr hxy
              (try clear hL); (try clear HS); (try clear HR); (try clear h); (try clear hKa); (try clear hKb); (try clear hKc); (try clear bV); (try clear bT); (try clear bL); (try clear hsW); (try clear hdl); (try clear hbm); (try clear hbr); (try clear hsb); (try clear hD1); (try clear hlt); (try clear hsz); (try clear hsz2); (try clear HCC); (try clear HK3); (try clear HB2'); (try clear BM); (try clear BR); (try clear HB); (try clear BM2); (try clear BR2); (try clear HB2); (try clear HB0); (try clear BT); (try clear HD); (try clear HWW); (try clear bS2); (try clear bV2); (try clear BT2); (try clear BR3); (try clear BL); (try clear BL2); (try clear hc); (try clear HC); (try clear HW); (try clear bt); (try clear bl); (try clear br); (try clear hll)
              gi_wp2
              refine ⟨(KeepsOthers.setCell _ _ _).from _, trivial, ?_, i1.setCell (Nat.le_refl _) _⟩
              refine blk_put i0 0 _ ?_
              rw [List.length_append, List.length_singleton]
              rfl
            · have hb1 : (y.toList == x.toList) = false := beq_eq_false_iff_ne.mpr hxy
              have hb2 : (y.toList != x.toList) = true := bne_iff_ne.mpr hxy
              (try clear hL); (try clear HS); (try clear HR); (try clear h); (try clear hKa); (try clear hKb); (try clear hKc); (try clear bV); (try clear bT); (try clear bL); (try clear hsW); (try clear hdl); (try clear hbm); (try clear hbr); (try clear hsb); (try clear hD1); (try clear hlt); (try clear hsz); (try clear hsz2); (try clear HCC); (try clear HK3); (try clear HB2'); (try clear BM); (try clear BR); (try clear HB); (try clear BM2); (try clear BR2); (try clear HB2); (try clear HB0); (try clear BT); (try clear HD); (try clear HWW); (try clear bS2); (try clear bV2); (try clear BT2); (try clear BR3); (try clear BL); (try clear BL2); (try clear hc); (try clear HC); (try clear HW); (try clear bt); (try clear bl); (try clear br); (try clear hll)
              gi_wp2
              refine ⟨(KeepsOthers.setCell _ _ _).from _, rfl, pre.length, by rw [List.length_append, List.length_singleton]; omega, ?_⟩
              intro he
              rw [List.getElem?_append_right (Nat.le_refl _), Nat.sub_self, List.getElem?_eq_getElem (show pre.length < L0.length by omega)] at he
              injection he with he
              apply hxy
              rw [← hy]
              unfold rdOf
              rw [Int.toNat_natCast, List.getD_eq_getElem?_getD, List.getElem?_eq_getElem (show pre.length < L0.length by omega), Option.getD_some, ← he]
          case done =>
            rintro D2 ys W hD hys ⟨i0, i1⟩ hK
            subst hys
            exact ⟨rfl, D2, rfl, ⟨hD, hK⟩, ⟨i0⟩, ⟨i1⟩⟩
          case stop =>
            rintro D2 cc pre W hD hpre ⟨rfl, j, hj1, hj3⟩ hK
            obtain ⟨t1, e1⟩ := hpre
            refine absurd ?_ hj3
            have a1 : (pre ++ t1)[j]? = pre[j]? := List.getElem?_append_left hj1
            rw [← a1, e1]
        case second2 =>
          rintro e a' W4 ⟨rfl, D2, rfl, HD', HI', HW'⟩
          obtain ⟨hE1, hE2⟩ := HD'.out
          have i0 := HI'.out
          have i1 := HW'.out
          have hsz4 := HWW.out.size
          have bt := (i1.block _ (by omega)).trans BT2.out
          have bl := (i1.block _ (by omega)).trans BL2.out
          have br := (i1.block _ (by omega)).trans BR3.out
          have hK4 := (i1.block _ (by omega)).trans HK3.out
          have y0 := blk_cell i0 0
          have y2 := blk_cell bl 0
          have y3 := blk_cell br 0
          have y4 := blk_frozen br 0
          have y5 := blk_cell bt 0
          have HDD := Aside0.mk (show w.heap.size + 1 < D ∧ D < D2 ∧ w2.heap.size ≤ W'.heap.size ∧ w.heap.size ≤ W4.heap.size ∧ Below w.heap.size w W4 from ⟨by omega, by omega, hsz4, by have := i1.size; omega, HB2.out.trans ((HCC.out.trans (i1.mono (by omega))).mono (by omega))⟩)
          (clear hD1); (try clear h); (try clear hKc); (try clear bV); (try clear bT); (try clear bL); (try clear hsW); (try clear hdl); (try clear hbm); (try clear hbr); (try clear hsz); (try clear hsz2); (try clear hsz4); (try clear HCC); (try clear HB2'); (try clear BM); (try clear BR); (try clear BM2); (try clear BR2); (try clear HB0); (try clear BT); (try clear HD); (try clear bS2); (try clear bV2); (try clear BT2); (try clear BL); (try clear BL2); (try clear hc); (try clear HC); (try clear HW)
          gi_wp2
          rw [roundsIn_succ]
          gi_wp2
          refine ⟨trivial, (whole_in k _ (n - 1) (by omega) b L0 hL _).mono ?_⟩
          rintro e w5 ⟨rfl, hb⟩
          have hW5 : Below W4.heap.size W4 w5 := (below_alloc (Below.refl W4.heap.size W4) _).trans (hb.mono (by simp))
          have br5 := blk_below br hW5
          have hD5 : D < W4.heap.size := (Array.getElem?_eq_some_iff.1 hK4).1
          have hD25 : D2 < W4.heap.size := (Array.getElem?_eq_some_iff.1 hE2).1
          have hK5 := (hW5.block D hD5).trans hK4
          have hE5 := (hW5.block D2 hD25).trans hE2
          have y3 := blk_cell br5 0
          have y4 := blk_frozen br5 0
          have HB5 := Aside0.mk hW5
          have HE2 := Aside0.mk hE2
          clear hb hW5 hE2 i0 i1 bt bl br hK4 y0 y2 y5 bV hE1
          gi_wp2
          obtain ⟨vb, hvb⟩ : ∃ vb, (wholeN L0 == n0) = vb := ⟨_, rfl⟩
          rw [hvb]
          obtain ⟨d1, d2, d3, d4, d5⟩ := HDD.out
          have b6 := blk_put (cs' := #[.bool vb]) br5 0 (.bool vb) rfl
          have e6 : (w5.setCell ⟨w.heap.size + 1, 0, none⟩ (.bool vb)).heap[D2]? = some (.deferred (some [])) := (Below.heap_setCell _ _ _ D2 (by show D2 ≠ w.heap.size + 1; omega)).trans hE5
          have f6 : (w5.setCell ⟨w.heap.size + 1, 0, none⟩ (.bool vb)).heap[D]? = some (.deferred (some [])) := (Below.heap_setCell _ _ _ D (by show D ≠ w.heap.size + 1; omega)).trans hK5
          have bw6 : Below w.heap.size w (w5.setCell ⟨w.heap.size + 1, 0, none⟩ (.bool vb)) := below_set (d5.trans (HB5.out.mono d4)) (by omega)
          obtain ⟨w6, hw6⟩ : ∃ w6, w5.setCell ⟨w.heap.size + 1, 0, none⟩ (.bool vb) = w6 := ⟨_, rfl⟩
          rw [hw6] at b6 e6 f6 bw6 ⊢
          have b7 : (w6.putObj D2 (.deferred none)).heap[w.heap.size + 1]? = some (.cells #[.bool vb] 4 (0, 0)) := by
            unfold World.putObj
            dsimp only
            rw [Array.getElem?_setIfInBounds_ne (by omega)]
            exact b6
          have f7 : (w6.putObj D2 (.deferred none)).heap[D]? = some (.deferred (some [])) := by
            unfold World.putObj
            dsimp only
            rw [Array.getElem?_setIfInBounds_ne (by omega)]
            exact f6
          have bw7 : Below w.heap.size w (w6.putObj D2 (.deferred none)) := bw6.trans (belowK_b (w := w) (Nat.le_refl _) _ D2 _ _ (by omega) e6 rfl rfl)
          obtain ⟨w7, hw7⟩ : ∃ w7, w6.putObj D2 (.deferred none) = w7 := ⟨_, rfl⟩
          refine ⟨by simp, .inl ⟨_, _, rfl, run_takeDeferred (ds := []) e6, ?_⟩⟩
          rw [hw7] at b7 f7 bw7 ⊢
          have b8 : (w7.putObj D (.deferred none)).heap[w.heap.size + 1]? = some (.cells #[.bool vb] 4 (0, 0)) := by
            unfold World.putObj
            dsimp only
            rw [Array.getElem?_setIfInBounds_ne (by omega)]
            exact b7
          have y8 := blk_cell b8 0
          refine ⟨by simp, .inl ⟨_, _, rfl, run_takeDeferred (ds := []) f7, ?_⟩⟩
          refine ⟨_, by simp [results, Try.results8, go_sem, y8], rfl, ?_⟩
          exact bw7.trans (belowK_b (w := w) (Nat.le_refl _) _ D _ _ (by omega) f7 rfl rfl)
    rcases he with rfl | rfl
    · exact KEY
    · exact KEY
theorem ferrulelaw02_SealAll.calls (k : Nat) (a0 : ByteArray) (a1 : Int) (r : Bool) (w : World) (h : ferrulelaw02_SealAll.f k a0 a1 = some r) :
    Calls Try.prog 8 #[.string a0, .int .i64 a1] w fun e w' => e = .returned (.bool r) ∧ Below w.heap.size w w' :=
  (callsIn_wide (n := 5)).1 (all_law_in k 5 (Nat.le_refl _) a0 a1 r w h)
end Go.Proofs.Ytkkkpmobdaebgaa.Pr
