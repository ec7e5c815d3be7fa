/- serial.Check: what it answers. Conditions: none. -/
import Derived.Test.YtbadlkhelhomjaaHandOrder
namespace Go.Proofs.Ytbadlkhelhomjaa.Pr
open Go.RowKit Go.Proofs.YtbadlkhelhomjaaW.PrintWords Go.Proofs.YtbadlkhelhomjaaW.PrintLast Go.Proofs.YtbadlkhelhomjaaW.PrintMore
open Go.Proofs.Ytbadlkhelhomjaa.Hnd
attribute [local go_sem] setCell_drewN_ alloc_drewN_
set_option linter.unusedVariables false
set_option linter.unusedSimpArgs false
def badC (l : List S27) (o : List Int) (n : Nat) : Bool := decide (rd o (n : Int) < 0) || (decide (rd o (n : Int) ≥ l.length) || (takenB (o.take n) (rd o (n : Int)) || (o.take n).any fun k => aheadB (rd_T27 l (rd o (n : Int))) (rd_T27 l k)))
def checkB (l : List S27) (o : List Int) : Bool := ((List.range o.length).all fun n => !(badC l o n)) && decide (o.length = l.length)
def serial_Check.f (l0 : List S27) (l1 : List Int) : Option Bool := if l1.length < 17592186044417 ∧ l0.length < 4611686018427387904 then some (checkB l0 l1) else none
theorem check_no {l : List S27} {o : List Int} (n : Nat) (hn : n < o.length) (h : badC l o n = true) : checkB l o = false := by
  unfold checkB
  have : ((List.range o.length).all fun n => !(badC l o n)) = false := by
    rw [List.all_eq_false]
    exact ⟨n, List.mem_range.2 hn, by simp [h]⟩
  rw [this]
  rfl
theorem check_yes {l : List S27} {o : List Int} (h : ∀ n, n < o.length → badC l o n = false) : checkB l o = decide (o.length = l.length) := by
  unfold checkB
  have : ((List.range o.length).all fun n => !(badC l o n)) = true := by
    rw [List.all_eq_true]
    exact fun n hn => by simp [h n (List.mem_range.1 hn)]
  rw [this]
  rfl
structure Ck (o : List Int) (bm n : Nat) (w W : World) : Prop where
  s : Set45 W bm n (takenB (o.take n))
  bel : Below w.heap.size w W
theorem Ck.below {o : List Int} {bm n : Nat} {w W W1 : World} (h : Ck o bm n w W) (hb : Below W.heap.size W W1) : Ck o bm n w W1 := ⟨MapB.below h.s hb, below_call h.bel hb⟩
theorem rd_atI (o : List Int) (n : Nat) (h : n < o.length) : rd o (n : Int) = o[n] := by simp [rd, List.getD_eq_getElem?_getD, h]
theorem Ck.mark {o : List Int} {n : Nat} {w W W1 : World} (h : Ck o w.heap.size n w W) (hn : n < o.length) (hm : Set45 W1 w.heap.size (n + 1) (fun z => if z = rd o (n : Int) then true else takenB (o.take n) z)) (hg : W.grownBy W1 (some w.heap.size)) : Ck o w.heap.size (n + 1) w W1 := by
  refine ⟨?_, Below.grown h.bel hg h.bel.size (fun k hk => by cases hk; exact Nat.le_refl _)⟩
  rw [List.take_succ_eq_append_getElem hn, ← rd_atI o n hn]
  exact (taken_snoc _ _) ▸ hm
theorem ckeep {ad : Addr} {bm n i q : Nat} {o : List Int} {x y : S27} {X4 X5 Y4 Y5 : Option Addr} {Xc4 Xc5 Yc4 Yc5 : Nat} {w W : World} {W1 : World} (h : W.cell? (ad.add (i * 6)) = some (.int .u64 x.f0.f0) ∧ W.cell? ⟨(ad.add (i * 6)).block, (ad.add (i * 6)).off + 1, none⟩ = some (.int .u64 x.f0.f1) ∧ W.cell? ⟨(ad.add (i * 6)).block, (ad.add (i * 6)).off + 2, none⟩ = some (.int .u64 x.f1) ∧ W.cell? ⟨(ad.add (i * 6)).block, (ad.add (i * 6)).off + 3, none⟩ = some (.int .u64 x.f2) ∧ W.cell? ⟨(ad.add (i * 6)).block, (ad.add (i * 6)).off + 4, none⟩ = some (.slice X4 x.f3.length Xc4) ∧ W.cell? ⟨(ad.add (i * 6)).block, (ad.add (i * 6)).off + 5, none⟩ = some (.slice X5 x.f4.length Xc5) ∧ W.cell? (ad.add (q * 6)) = some (.int .u64 y.f0.f0) ∧ W.cell? ⟨(ad.add (q * 6)).block, (ad.add (q * 6)).off + 1, none⟩ = some (.int .u64 y.f0.f1) ∧ W.cell? ⟨(ad.add (q * 6)).block, (ad.add (q * 6)).off + 2, none⟩ = some (.int .u64 y.f1) ∧ W.cell? ⟨(ad.add (q * 6)).block, (ad.add (q * 6)).off + 3, none⟩ = some (.int .u64 y.f2) ∧ W.cell? ⟨(ad.add (q * 6)).block, (ad.add (q * 6)).off + 4, none⟩ = some (.slice Y4 y.f3.length Yc4) ∧ W.cell? ⟨(ad.add (q * 6)).block, (ad.add (q * 6)).off + 5, none⟩ = some (.slice Y5 y.f4.length Yc5) ∧ Ck o bm n w W) (hb : Below W.heap.size W W1) : W1.cell? (ad.add (i * 6)) = some (.int .u64 x.f0.f0) ∧ W1.cell? ⟨(ad.add (i * 6)).block, (ad.add (i * 6)).off + 1, none⟩ = some (.int .u64 x.f0.f1) ∧ W1.cell? ⟨(ad.add (i * 6)).block, (ad.add (i * 6)).off + 2, none⟩ = some (.int .u64 x.f1) ∧ W1.cell? ⟨(ad.add (i * 6)).block, (ad.add (i * 6)).off + 3, none⟩ = some (.int .u64 x.f2) ∧ W1.cell? ⟨(ad.add (i * 6)).block, (ad.add (i * 6)).off + 4, none⟩ = some (.slice X4 x.f3.length Xc4) ∧ W1.cell? ⟨(ad.add (i * 6)).block, (ad.add (i * 6)).off + 5, none⟩ = some (.slice X5 x.f4.length Xc5) ∧ W1.cell? (ad.add (q * 6)) = some (.int .u64 y.f0.f0) ∧ W1.cell? ⟨(ad.add (q * 6)).block, (ad.add (q * 6)).off + 1, none⟩ = some (.int .u64 y.f0.f1) ∧ W1.cell? ⟨(ad.add (q * 6)).block, (ad.add (q * 6)).off + 2, none⟩ = some (.int .u64 y.f1) ∧ W1.cell? ⟨(ad.add (q * 6)).block, (ad.add (q * 6)).off + 3, none⟩ = some (.int .u64 y.f2) ∧ W1.cell? ⟨(ad.add (q * 6)).block, (ad.add (q * 6)).off + 4, none⟩ = some (.slice Y4 y.f3.length Yc4) ∧ W1.cell? ⟨(ad.add (q * 6)).block, (ad.add (q * 6)).off + 5, none⟩ = some (.slice Y5 y.f4.length Yc5) ∧ Ck o bm n w W1 :=
  have c : ∀ {a : Addr} {v : Value}, W.cell? a = some v → W1.cell? a = some v := fun {a v} e => (hb.cell (World.block_lt_of_cell? W _ e)).trans e
  ⟨c h.1, c h.2.1, c h.2.2.1, c h.2.2.2.1, c h.2.2.2.2.1, c h.2.2.2.2.2.1, c h.2.2.2.2.2.2.1, c h.2.2.2.2.2.2.2.1, c h.2.2.2.2.2.2.2.2.1, c h.2.2.2.2.2.2.2.2.2.1, c h.2.2.2.2.2.2.2.2.2.2.1, c h.2.2.2.2.2.2.2.2.2.2.2.1, h.2.2.2.2.2.2.2.2.2.2.2.2.below hb⟩
theorem cbel {ad : Addr} {bm n i q : Nat} {o : List Int} {x y : S27} {X4 X5 Y4 Y5 : Option Addr} {Xc4 Xc5 Yc4 Yc5 : Nat} {w W : World} (h : W.cell? (ad.add (i * 6)) = some (.int .u64 x.f0.f0) ∧ W.cell? ⟨(ad.add (i * 6)).block, (ad.add (i * 6)).off + 1, none⟩ = some (.int .u64 x.f0.f1) ∧ W.cell? ⟨(ad.add (i * 6)).block, (ad.add (i * 6)).off + 2, none⟩ = some (.int .u64 x.f1) ∧ W.cell? ⟨(ad.add (i * 6)).block, (ad.add (i * 6)).off + 3, none⟩ = some (.int .u64 x.f2) ∧ W.cell? ⟨(ad.add (i * 6)).block, (ad.add (i * 6)).off + 4, none⟩ = some (.slice X4 x.f3.length Xc4) ∧ W.cell? ⟨(ad.add (i * 6)).block, (ad.add (i * 6)).off + 5, none⟩ = some (.slice X5 x.f4.length Xc5) ∧ W.cell? (ad.add (q * 6)) = some (.int .u64 y.f0.f0) ∧ W.cell? ⟨(ad.add (q * 6)).block, (ad.add (q * 6)).off + 1, none⟩ = some (.int .u64 y.f0.f1) ∧ W.cell? ⟨(ad.add (q * 6)).block, (ad.add (q * 6)).off + 2, none⟩ = some (.int .u64 y.f1) ∧ W.cell? ⟨(ad.add (q * 6)).block, (ad.add (q * 6)).off + 3, none⟩ = some (.int .u64 y.f2) ∧ W.cell? ⟨(ad.add (q * 6)).block, (ad.add (q * 6)).off + 4, none⟩ = some (.slice Y4 y.f3.length Yc4) ∧ W.cell? ⟨(ad.add (q * 6)).block, (ad.add (q * 6)).off + 5, none⟩ = some (.slice Y5 y.f4.length Yc5) ∧ Ck o bm n w W) : Ck o bm n w W := h.2.2.2.2.2.2.2.2.2.2.2.2
set_option maxHeartbeats 8000000 in
set_option maxRecDepth 100000 in
theorem serial_Check.calls (A0 : Option Addr) (c0 : Nat) (l0 : List S27) (A1 : Option Addr) (c1 : Nat) (l1 : List Int) (r : Bool) (w : World) (hr0 : Kd.C k27 w A0 l0.length l0) (hc0 : l0.length ≤ c0) (hr1 : Kd.C (Kd.int .i64) w A1 l1.length l1) (hc1 : l1.length ≤ c1) (h : serial_Check.f l0 l1 = some r) :
    Calls Try.prog 15 #[.slice A0 l0.length c0, .slice A1 l1.length c1] w fun e w' => e = .returned (.bool r) ∧ Below w.heap.size w w' := by
  unfold serial_Check.f at h
  by_cases hs : l1.length < 17592186044417 ∧ l0.length < 4611686018427387904
  rotate_left
  · rw [if_neg hs] at h; cases h
  rw [if_pos hs] at h
  have HF := Aside0.mk (Option.some.inj h)
  clear h
  obtain ⟨hs1, hs0⟩ := hs
  have HR := Aside0.mk hr0
  have HO := Aside0.mk hr1
  have HC1 := Aside0.mk hc1
  have HL : l0.length ≤ 9223372036854775807 := hr0.2.1
  have HL1 : l1.length ≤ 9223372036854775807 := hr1.2.1
  have HS0 := Aside0.mk hs0
  have HS1 := Aside0.mk hs1
  clear hr0 hr1 hs0 hs1
  have hmm := @run_makeMap Try.prog
  go_enter Try.func15, Try.ntmps15
  go_wp2_with fail
  go_loopg [13] l1.length (fun g v13 wr => ∃ (n : Nat), v13 = .int .i64 (n : Int) ∧ Aside0 (n ≤ l1.length ∧ l1.length - n ≤ g) ∧ Aside0 (∀ m, m < n → badC l0 l1 m = false) ∧ Aside0 (Ck l1 w.heap.size n w wr))
  case atStart => exact ⟨0, rfl, ⟨by omega⟩, ⟨fun m hm => by omega⟩, ⟨⟨MapB.made w, below_alloc (Below.refl _ _) _⟩⟩⟩
  case round =>
    clear hmm
    obtain ⟨n, rfl, HI, HT, HK⟩ := hrel
    by_cases hlt : (n : Int) < l1.length
    · have hltb := decide_eq_true hlt
      have hnl : n < l1.length := by omega
      have HN := Aside0.mk hnl
      obtain ⟨ao, hao, y0⟩ := Kd.at_int HO.out (n : Int) (by omega) hlt
      obtain rfl := hao
      simp only [Int.toNat_natCast] at y0
      replace y0 := (HK.out.bel.cell (World.block_lt_of_cell? w _ y0)).trans y0
      obtain ⟨v, hv⟩ : ∃ v, rd l1 (n : Int) = v := ⟨_, rfl⟩
      have HV := Aside0.mk hv
      rw [hv] at y0
      clear hv
      by_cases h0 : v < 0
      · have h0b := decide_eq_true h0
        have HB := Aside0.mk (show badC l0 l1 n = true by unfold badC; rw [HV.out, h0b]; rfl)
        go_wp2
        go_ret
        refine ⟨?_, HK.out.bel⟩
        rw [← HF.out, check_no n HN.out HB.out]
        rfl
      · have h0b := decide_eq_false h0
        obtain ⟨i, rfl⟩ : ∃ i : Nat, v = (i : Int) := ⟨v.toNat, by omega⟩
        by_cases h1 : (i : Int) ≥ l0.length
        · have h1b := decide_eq_true h1
          have HB := Aside0.mk (show badC l0 l1 n = true by unfold badC; rw [HV.out, h0b, h1b]; rfl)
          go_wp2
          go_ret
          refine ⟨?_, HK.out.bel⟩
          rw [← HF.out, check_no n HN.out HB.out]
          rfl
        · have h1b := decide_eq_false h1
          have hil : i < l0.length := by omega
          have hok := okI_of i (by have := HS0.out; omega)
          have HOK := Aside0.mk hok
          have l1_ := look45 HK.out.s (i : Int) hok
          clear hok
          cases ht : takenB (l1.take n) (i : Int) with
          | true =>
            have HB := Aside0.mk (show badC l0 l1 n = true by unfold badC; rw [HV.out, h0b, h1b, ht]; rfl)
            rw [ht] at l1_
            clear ht
            go_wp2
            go_ret
            refine ⟨?_, HK.out.bel⟩
            rw [← HF.out, check_no n HN.out HB.out]
            rfl
          | false =>
            have HTK := Aside0.mk ht
            rw [ht] at l1_
            clear ht
            have hcn : (n : Int) ≤ c1 := by have := HC1.out; omega
            have hcnb := decide_eq_true hcn
            go_wp2_with (first
              | (at_mapUpdate; obtain ⟨kl, hkl⟩ := key3 (i : Int) HOK.out; refine wpList_mapUpdate_B _ rfl _ _ _ 45 rfl 3 4 keyed3 (fun x y _ _ h => enc3_inj x y h) Try.underlying45 Try.underlying4 w.heap.size n rfl HK.out.s ?hn (i : Int) HOK.out kl rfl true rfl hkl ?_; (case hn => (have := HS1.out; have := HN.out; unfold maxLen; omega)); intro w4 hm4 hg4; have HK4 := Aside0.mk (HK.out.mark HN.out (HV.out ▸ hm4) hg4); clear hm4 hg4 hkl)
              | fail)
            obtain ⟨wa, rfl⟩ : ∃ wo : World, wo = wr := ⟨_, rfl⟩
            obtain ⟨gO, rfl⟩ : ∃ go : Nat, go = gk := ⟨_, rfl⟩
            go_loopg [37] n (fun g v37 ws => ∃ (j : Nat), v37 = .int .i64 (j : Int) ∧ Aside0 (j ≤ n ∧ n - j ≤ g) ∧ Aside0 (∀ m, m < j → aheadB (rd_T27 l0 (i : Int)) (rd_T27 l0 (rd l1 (m : Int))) = false) ∧ Aside0 (Ck l1 w.heap.size (n + 1) w ws))
            case atStart => exact ⟨0, rfl, ⟨by omega⟩, ⟨fun m hm => by omega⟩, HK4⟩
            case round =>
              clear HK4 hltb y0 l1_ hcn hcnb hlt
              obtain ⟨j, rfl, HJ, HP, HK⟩ := hrel
              by_cases hjn : (j : Int) < n
              · have hjb := decide_eq_true hjn
                have hjl : j < n := by omega
                have hj1 : (j : Int) < l1.length := by omega
                obtain ⟨ao', hao, z0⟩ := Kd.at_int HO.out (j : Int) (by omega) hj1
                obtain rfl := Option.some.inj hao
                simp only [Int.toNat_natCast] at z0
                replace z0 := (HK.out.bel.cell (World.block_lt_of_cell? w _ z0)).trans z0
                have hb := HT.out j hjl
                unfold badC at hb
                simp only [Bool.or_eq_false_iff, decide_eq_false_iff_not] at hb
                obtain ⟨q, hq⟩ : ∃ q : Nat, rd l1 (j : Int) = (q : Int) := ⟨(rd l1 (j : Int)).toNat, by omega⟩
                have HQ := Aside0.mk hq
                rw [hq] at z0 hb
                have hql : q < l0.length := by omega
                clear hb hq
                obtain ⟨ad, X4, Xc4, X5, Xc5, e', x0, x1, x2, x3, x4, x5, gx1, gx2, gx3, gx4⟩ := at_T27 HR.out (i : Int) (by omega) (by omega)
                obtain rfl := e'
                obtain ⟨ad', Y4, Yc4, Y5, Yc5, e', y0, y1, y2, y3, y4, y5, gy1, gy2, gy3, gy4⟩ := at_T27 HR.out (q : Int) (by omega) (by omega)
                obtain rfl := Option.some.inj e'
                clear e'
                simp only [Int.toNat_natCast] at x0 x1 x2 x3 x4 x5 y0 y1 y2 y3 y4 y5
                obtain ⟨x, hx⟩ : ∃ x, rd_T27 l0 (i : Int) = x := ⟨_, rfl⟩
                have HX := Aside0.mk hx
                rw [hx] at x0 x1 x2 x3 x4 x5 gx1 gx2 gx3 gx4
                clear hx
                obtain ⟨y, hy⟩ : ∃ y, rd_T27 l0 (q : Int) = y := ⟨_, rfl⟩
                have HY := Aside0.mk hy
                rw [hy] at y0 y1 y2 y3 y4 y5 gy1 gy2 gy3 gy4
                clear hy
                have H10 := Aside0.mk (fun W (hb : Below w.heap.size w W) => serial_Ahead.calls x.f0.f0 x.f0.f1 x.f1 x.f2 X4 Xc4 x.f3 X5 Xc5 x.f4 y.f0.f0 y.f0.f1 y.f1 y.f2 Y4 Yc4 y.f3 Y5 Yc5 y.f4 (aheadB x y) W (Kd.C_below gx2 hb) gx1 (Kd.C_below gx4 hb) gx3 (Kd.C_below gy2 hb) gy1 (Kd.C_below gy4 hb) gy3 rfl)
                have HKD := Aside0.mk (HK.out.below (below_drew1 (Below.refl wr.heap.size wr)))
                have HSS : Aside0 (wr.drew.cell? (ad.add (i * 6)) = some (.int .u64 x.f0.f0) ∧ wr.drew.cell? ⟨(ad.add (i * 6)).block, (ad.add (i * 6)).off + 1, none⟩ = some (.int .u64 x.f0.f1) ∧ wr.drew.cell? ⟨(ad.add (i * 6)).block, (ad.add (i * 6)).off + 2, none⟩ = some (.int .u64 x.f1) ∧ wr.drew.cell? ⟨(ad.add (i * 6)).block, (ad.add (i * 6)).off + 3, none⟩ = some (.int .u64 x.f2) ∧ wr.drew.cell? ⟨(ad.add (i * 6)).block, (ad.add (i * 6)).off + 4, none⟩ = some (.slice X4 x.f3.length Xc4) ∧ wr.drew.cell? ⟨(ad.add (i * 6)).block, (ad.add (i * 6)).off + 5, none⟩ = some (.slice X5 x.f4.length Xc5) ∧ wr.drew.cell? (ad.add (q * 6)) = some (.int .u64 y.f0.f0) ∧ wr.drew.cell? ⟨(ad.add (q * 6)).block, (ad.add (q * 6)).off + 1, none⟩ = some (.int .u64 y.f0.f1) ∧ wr.drew.cell? ⟨(ad.add (q * 6)).block, (ad.add (q * 6)).off + 2, none⟩ = some (.int .u64 y.f1) ∧ wr.drew.cell? ⟨(ad.add (q * 6)).block, (ad.add (q * 6)).off + 3, none⟩ = some (.int .u64 y.f2) ∧ wr.drew.cell? ⟨(ad.add (q * 6)).block, (ad.add (q * 6)).off + 4, none⟩ = some (.slice Y4 y.f3.length Yc4) ∧ wr.drew.cell? ⟨(ad.add (q * 6)).block, (ad.add (q * 6)).off + 5, none⟩ = some (.slice Y5 y.f4.length Yc5) ∧ Ck l1 w.heap.size (n + 1) w wr.drew) := by
                  have c : ∀ {a : Addr} {v : Value}, w.cell? a = some v → wr.drew.cell? a = some v := fun {a v} e => (HKD.out.bel.cell (World.block_lt_of_cell? w _ e)).trans e
                  exact ⟨⟨c x0, c x1, c x2, c x3, c x4, c x5, c y0, c y1, c y2, c y3, c y4, c y5, HKD.out⟩⟩
                clear x0 x1 x2 x3 x4 x5 y0 y1 y2 y3 y4 y5 gx1 gx2 gx3 gx4 gy1 gy2 gy3 gy4
                obtain ⟨b, hb⟩ : ∃ b, aheadB x y = b := ⟨_, rfl⟩
                have HB := Aside0.mk (show aheadB (rd_T27 l0 (i : Int)) (rd_T27 l0 (rd l1 (j : Int))) = b by rw [HQ.out, HX.out, HY.out, hb])
                rw [hb] at H10
                clear hb
                go_wp2
                (go_region_held3 (fun W' => W'.cell? (ad.add (i * 6)) = some (.int .u64 x.f0.f0) ∧ W'.cell? ⟨(ad.add (i * 6)).block, (ad.add (i * 6)).off + 1, none⟩ = some (.int .u64 x.f0.f1) ∧ W'.cell? ⟨(ad.add (i * 6)).block, (ad.add (i * 6)).off + 2, none⟩ = some (.int .u64 x.f1) ∧ W'.cell? ⟨(ad.add (i * 6)).block, (ad.add (i * 6)).off + 3, none⟩ = some (.int .u64 x.f2) ∧ W'.cell? ⟨(ad.add (i * 6)).block, (ad.add (i * 6)).off + 4, none⟩ = some (.slice X4 x.f3.length Xc4) ∧ W'.cell? ⟨(ad.add (i * 6)).block, (ad.add (i * 6)).off + 5, none⟩ = some (.slice X5 x.f4.length Xc5) ∧ W'.cell? (ad.add (q * 6)) = some (.int .u64 y.f0.f0) ∧ W'.cell? ⟨(ad.add (q * 6)).block, (ad.add (q * 6)).off + 1, none⟩ = some (.int .u64 y.f0.f1) ∧ W'.cell? ⟨(ad.add (q * 6)).block, (ad.add (q * 6)).off + 2, none⟩ = some (.int .u64 y.f1) ∧ W'.cell? ⟨(ad.add (q * 6)).block, (ad.add (q * 6)).off + 3, none⟩ = some (.int .u64 y.f2) ∧ W'.cell? ⟨(ad.add (q * 6)).block, (ad.add (q * 6)).off + 4, none⟩ = some (.slice Y4 y.f3.length Yc4) ∧ W'.cell? ⟨(ad.add (q * 6)).block, (ad.add (q * 6)).off + 5, none⟩ = some (.slice Y5 y.f4.length Yc5) ∧ Ck l1 w.heap.size (n + 1) w W') (first | (exact HSS.out) | (refine ckeep ?_ hb; assumption) | go_keep)
                  (first | (go_at_call 10; refine (H10.out _ ?hB).mono ?_; (case hB => exact (cbel (by assumption)).bel); rintro e w1 ⟨rfl, hb⟩)))
                have HE := Aside0.mk (cbel (ad := ad) (bm := w.heap.size) (n := n + 1) (i := i) (q := q) (o := l1) (x := x) (y := y) (w := w) (by assumption))
                cases b with
                | true =>
                  go_wp2
                  go_ret
                  refine ⟨?_, HE.out.bel⟩
                  rw [← HF.out, check_no n HN.out (by
                    unfold badC
                    rw [HV.out]
                    have : ((l1.take n).any fun k => aheadB (rd_T27 l0 (i : Int)) (rd_T27 l0 k)) = true := List.any_eq_true.2 ⟨rd l1 (j : Int), by rw [rd_atI l1 j (by omega), List.mem_take_iff_getElem]; exact ⟨j, by omega, rfl⟩, HB.out⟩
                    rw [this]
                    simp)]
                  rfl
                | false =>
                  go_wp2
                  go_roundg (gk - 1)
                  case measure => have := HJ.out; omega
                  case rel => exact ⟨j + 1, by go_num, ⟨by have := HJ.out; omega⟩, ⟨fun m hm => by
                    by_cases e : m = j
                    · rw [e]; exact HB.out
                    · exact HP.out m (by omega)⟩, HE⟩
              · have hjb := decide_eq_false hjn
                have hje : j = n := by have := HJ.out; omega
                have HBN := Aside0.mk (show badC l0 l1 n = false by
                  unfold badC
                  rw [HV.out, h0b, h1b, HTK.out]
                  have : ((l1.take n).any fun k => aheadB (rd_T27 l0 (i : Int)) (rd_T27 l0 k)) = false := by
                    rw [List.any_eq_false]
                    intro k hk
                    obtain ⟨m, hm, rfl⟩ := List.mem_take_iff_getElem.1 hk
                    have := HP.out m (by omega)
                    rw [rd_atI l1 m (by omega)] at this
                    simp [this]
                  rw [this]
                  rfl)
                go_wp2
                go_roundg (gO - 1)
                case measure => have := HI.out; omega
                case rel => exact ⟨n + 1, by go_num, ⟨by have := HI.out; have := HN.out; omega⟩, ⟨fun m hm => by
                  by_cases e : m = n
                  · rw [e]; exact HBN.out
                  · exact HT.out m (by omega)⟩, HK⟩
    · have hltb := decide_eq_false hlt
      have hie : n = l1.length := by have := HI.out; omega
      have HE := Aside0.mk (show r = decide (l1.length = l0.length) by rw [← HF.out]; exact check_yes (fun m hm => HT.out m (by omega)))
      go_wp2
      go_ret
      refine ⟨?_, HK.out.bel⟩
      rw [HE.out]
      by_cases e : l1.length = l0.length
      · simp [e]
      · have e2 : ¬ ((l1.length : Int) = (l0.length : Int)) := by omega
        simp [e, e2]
end Go.Proofs.Ytbadlkhelhomjaa.Pr
