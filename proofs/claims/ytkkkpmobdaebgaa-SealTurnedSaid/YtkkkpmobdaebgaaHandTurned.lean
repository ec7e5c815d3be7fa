/- The law SealTurned: what it computes, and that it does. Conditions: none. -/
import Derived.Test.YtkkkpmobdaebgaaPr1
import Derived.Test.YtkkkpmobdaebgaaPr2
import Derived.Test.YtkkkpmobdaebgaaPr11
import Derived.Test.YtkkkpmobdaebgaaHnd
import Derived.Lib.ConvBytes
import Derived.Laws.IdiomStrings
namespace Go.Proofs.Ytkkkpmobdaebgaa.Pr
open Go.RowKit Go.Proofs.YtkkkpmobdaebgaaW.PrintWords Go.Proofs.YtkkkpmobdaebgaaW.PrintLast Go.Proofs.YtkkkpmobdaebgaaW.PrintMore
open Go.Proofs.Ytkkkpmobdaebgaa.Hnd
attribute [local go_sem] setCell_drewN_ alloc_drewN_
set_option linter.unusedVariables false
set_option linter.unusedSimpArgs false
def setB (b : ByteArray) (i : Nat) (v : UInt8) : ByteArray := ⟨(b.data.toList.set i v).toArray⟩
/-- The byte that stands at i behind the turn. -/
def turnV (b : ByteArray) (i : Nat) (by_ : Int) : Int := Go.bits .xor .u8 ((b.data.toList.getD i 0).toNat : Int) (IntKind.u8.wrap by_)
def ferrulelaw02_SealTurned.f (k : Nat) (s : ByteArray) (at_ by_ : Int) : Option Bool :=
  ferrulelaw02_shown.f.bind fun up => (seal_Put.f s).bind fun b => if b.2 = 0 then (if at_ < 0 then some up else if Int.tmod by_ 256 = 0 then some up else
    if wrap64 (wrap64 ((b.1.size : Int) - s.size) - 4) < 1 then none else if at_ ≥ wrap64 ((s.size : Int) + 4) then (if up = true then some true else none) else
    if 0 ≤ wrap64 (wrap64 (wrap64 ((b.1.size : Int) - s.size) - 4) + at_) ∧ wrap64 (wrap64 (wrap64 ((b.1.size : Int) - s.size) - 4) + at_) < b.1.size ∧ 0 ≤ turnV b.1 (wrap64 (wrap64 (wrap64 ((b.1.size : Int) - s.size) - 4) + at_)).toNat by_ ∧ turnV b.1 (wrap64 (wrap64 (wrap64 ((b.1.size : Int) - s.size) - 4) + at_)).toNat by_ < 256 ∧ b.1.size ≤ 4611686018427387904 then
      (seal_Take.f k (setB b.1 (wrap64 (wrap64 (wrap64 ((b.1.size : Int) - s.size) - 4) + at_)).toNat (UInt8.ofNat (turnV b.1 (wrap64 (wrap64 (wrap64 ((b.1.size : Int) - s.size) - 4) + at_)).toNat by_).toNat))).bind fun r => if up = true then some (r.2.2 == 3) else none
    else none) else some up
theorem ferrulelaw02_SealTurned.mono : ∀ a0 a1 a2 k, LeO (ferrulelaw02_SealTurned.f k a0 a1 a2) (ferrulelaw02_SealTurned.f (k + 1) a0 a1 a2) := fun s a b k =>
  LeO.bind (LeO.refl _) (fun _ => LeO.bind (LeO.refl _) (fun _ => LeO.ite (LeO.ite (LeO.refl _) (LeO.ite (LeO.refl _) (LeO.ite (LeO.refl _) (LeO.ite (LeO.refl _) (LeO.ite (LeO.bind (seal_Take.mono _ _) (fun _ => LeO.refl _)) (LeO.refl _)))))) (LeO.refl _)))
set_option maxHeartbeats 4000000 in
set_option maxRecDepth 100000 in
theorem ferrulelaw02_SealTurned.calls (k : Nat) (s : ByteArray) (at_ by_ : Int) (r : Bool) (w : World) (h : ferrulelaw02_SealTurned.f k s at_ by_ = some r) :
    Calls Try.prog 7 #[.string s, .int .i64 at_, .int .i64 by_] w fun e w' => e = .returned (.bool r) ∧ Below w.heap.size w w' := by
  unfold ferrulelaw02_SealTurned.f at h
  replace h := Option.bind_eq_some_iff.mp h
  obtain ⟨up, hS, h⟩ := h
  replace h := Option.bind_eq_some_iff.mp h
  obtain ⟨⟨b, er⟩, hP, h⟩ := h
  dsimp only at h
  have HS := Aside0.mk hS
  have HP := Aside0.mk hP
  clear hS hP
  by_cases her : er = 0
  rotate_left
  · rw [if_neg her] at h
    obtain rfl := Option.some.inj h
    have hneb : (er != 0) = true := bne_iff_ne.mpr her
    clear h
    go_enter Try.func7, Try.ntmps7
    go_wp2_with fail
    refine (ferrulelaw02_shown.calls up _ HS.out).mono ?_
    rintro e w1 ⟨rfl, hb⟩
    have HB1 := Aside0.mk hb
    clear hb
    go_wp2_with fail
    refine (seal_Put.calls s b er _ HP.out).mono ?_
    rintro e w2 ⟨rfl, hb⟩
    have HB2 := Aside0.mk (below_call HB1.out hb)
    clear hb
    go_wp2_with fail
    go_ret
    exact ⟨rfl, HB2.out⟩
  rw [if_pos her] at h
  subst her
  by_cases hat : at_ < 0
  · rw [if_pos hat] at h
    obtain rfl := Option.some.inj h
    have hatb := decide_eq_true hat
    clear h hat
    go_enter Try.func7, Try.ntmps7
    go_wp2_with fail
    refine (ferrulelaw02_shown.calls up _ HS.out).mono ?_
    rintro e w1 ⟨rfl, hb⟩
    have HB1 := Aside0.mk hb
    clear hb
    go_wp2_with fail
    refine (seal_Put.calls s b 0 _ HP.out).mono ?_
    rintro e w2 ⟨rfl, hb⟩
    have HB2 := Aside0.mk (below_call HB1.out hb)
    clear hb
    go_wp2_with fail
    go_ret
    exact ⟨rfl, HB2.out⟩
  rw [if_neg hat] at h
  have hatb := decide_eq_false hat
  by_cases hby : Int.tmod by_ 256 = 0
  · rw [if_pos hby] at h
    obtain rfl := Option.some.inj h
    have hbyb : (Int.tmod by_ 256 == 0) = true := beq_iff_eq.mpr hby
    clear h hby hat
    go_enter Try.func7, Try.ntmps7
    go_wp2_with fail
    refine (ferrulelaw02_shown.calls up _ HS.out).mono ?_
    rintro e w1 ⟨rfl, hb⟩
    have HB1 := Aside0.mk hb
    clear hb
    go_wp2_with fail
    refine (seal_Put.calls s b 0 _ HP.out).mono ?_
    rintro e w2 ⟨rfl, hb⟩
    have HB2 := Aside0.mk (below_call HB1.out hb)
    clear hb
    go_wp2_with fail
    go_ret
    exact ⟨rfl, HB2.out⟩
  rw [if_neg hby] at h
  have hbyb : (Int.tmod by_ 256 == 0) = false := beq_eq_false_iff_ne.mpr hby
  by_cases hhd : wrap64 (wrap64 ((b.size : Int) - s.size) - 4) < 1
  · rw [if_pos hhd] at h; cases h
  rw [if_neg hhd] at h
  obtain ⟨hd, hhe⟩ : ∃ hd, wrap64 (wrap64 ((b.size : Int) - s.size) - 4) = hd := ⟨_, rfl⟩
  rw [hhe] at h hhd
  have hhdb := decide_eq_false hhd
  by_cases hge : at_ ≥ wrap64 ((s.size : Int) + 4)
  · rw [if_pos hge] at h
    cases up with
    | false => rw [if_neg (by decide)] at h; cases h
    | true =>
      rw [if_pos rfl] at h
      obtain rfl := Option.some.inj h
      have hgb : decide (wrap64 ((s.size : Int) + 4) ≤ at_) = true := decide_eq_true hge
      have hgc : decide (at_ ≥ wrap64 ((s.size : Int) + 4)) = true := decide_eq_true hge
      have h1b : decide (1 ≤ hd) = true := decide_eq_true (by omega)
      have h1c : decide (hd ≥ 1) = true := decide_eq_true (by omega)
      clear h hge hhd hby hat
      go_enter Try.func7, Try.ntmps7
      go_wp2_with fail
      refine (ferrulelaw02_shown.calls true _ HS.out).mono ?_
      rintro e w1 ⟨rfl, hb⟩
      have HB1 := Aside0.mk hb
      clear hb
      go_wp2_with fail
      refine (seal_Put.calls s b 0 _ HP.out).mono ?_
      rintro e w2 ⟨rfl, hb⟩
      have HB2 := Aside0.mk (below_call HB1.out hb)
      clear hb
      go_wp2_with fail
      go_ret
      exact ⟨rfl, HB2.out⟩
  rw [if_neg hge] at h
  have hgb : decide (wrap64 ((s.size : Int) + 4) ≤ at_) = false := decide_eq_false hge
  have hgc : decide (at_ ≥ wrap64 ((s.size : Int) + 4)) = false := decide_eq_false hge
  obtain ⟨ix, hix⟩ : ∃ ix, wrap64 (hd + at_) = ix := ⟨_, rfl⟩
  rw [hix] at h
  by_cases hok : 0 ≤ ix ∧ ix < b.size ∧ 0 ≤ turnV b ix.toNat by_ ∧ turnV b ix.toNat by_ < 256 ∧ b.size ≤ 4611686018427387904
  rotate_left
  · rw [if_neg hok] at h; cases h
  rw [if_pos hok] at h
  obtain ⟨h0, h1, hv0, hv1, hbz⟩ := hok
  obtain ⟨j, rfl⟩ : ∃ j : Nat, ix = (j : Int) := ⟨ix.toNat, by omega⟩
  rw [Int.toNat_natCast] at h hv0 hv1
  have hjb : j < b.size := by omega
  replace h := Option.bind_eq_some_iff.mp h
  obtain ⟨⟨q1, q2, q3⟩, hT, h⟩ := h
  dsimp only at h
  have HH := Aside0.mk h
  have HV := Aside0.mk (And.intro hv0 hv1)
  have HJ := Aside0.mk hjb
  have HZ := Aside0.mk hbz
  obtain ⟨vv, hvv⟩ : ∃ vv, turnV b j by_ = vv := ⟨_, rfl⟩
  rw [hvv] at hT
  have HTk := Aside0.mk (show seal_Take.f k ⟨(b.data.toList.set j (UInt8.ofNat vv.toNat)).toArray⟩ = some (q1, q2, q3) from hT)
  obtain ⟨c0, hc0⟩ : ∃ c0 : Nat, (b.data.toList.getD j 0).toNat = c0 := ⟨_, rfl⟩
  have hxor : Go.bits .xor .u8 (c0 : Int) (by_ % 256) = vv := by rw [← hvv, ← hc0]; rfl
  have HVV := Aside0.mk hvv
  have HC0 := Aside0.mk hc0
  clear h hT hv0 hv1 hbz hge hhd hby hat hvv
  go_enter Try.func7, Try.ntmps7
  go_wp2_with fail
  refine (ferrulelaw02_shown.calls up _ HS.out).mono ?_
  rintro e w1 ⟨rfl, hb⟩
  have HB1 := Aside0.mk hb
  clear hb
  go_wp2_with fail
  refine (seal_Put.calls s b 0 _ HP.out).mono ?_
  rintro e w2 ⟨rfl, hb⟩
  have HB2 := Aside0.mk (below_call HB1.out hb)
  clear hb
  have hcv := Lib.run_convert_string_bytes (P := Try.prog) w2 9 39 5 b Try.underlying9 Try.underlying39 Try.underlying5
  have hjb := HJ.out
  have hcell := Lib.bytesWorld_cell w2 5 b j hjb
  rw [HC0.out] at hcell
  have hfz : (Lib.bytesWorld w2 5 b).frozen? ⟨w2.heap.size, j, none⟩ = false := by
    have hge := grownCap_ge w2 b.size 0 5
    have hsz : (Lib.bytesCells w2 5 b).size = grownCap w2 b.size 0 5 := by
      unfold Lib.bytesCells
      rw [Array.size_append, Array.size_map, Array.size_replicate]
      have : b.data.size = b.size := rfl
      omega
    simp only [World.frozen?, Lib.bytesWorld_at_new, Bool.and_eq_false_iff, decide_eq_false_iff_not]
    left
    omega
  have HB3 := Aside0.mk (bytes_below HB2.out HB2.out.size 5 b)
  have hvr := HV.out
  rw [HVV.out] at hvr
  have hbl : (b.data.toList.set j (UInt8.ofNat vv.toNat)).length = b.size := by
    rw [List.length_set, Array.length_toList]
    rfl
  have hbk := run_convert_bytes_back (P := Try.prog) ((Lib.bytesWorld w2 5 b).setCell ⟨w2.heap.size, j, none⟩ (.int .u8 vv)) 39 9 5 ⟨w2.heap.size, 0, none⟩ (grownCap w2 b.size 0 5) (b.data.toList.set j (UInt8.ofNat vv.toNat)) Try.underlying39 Try.underlying5 Try.underlying9 (fun i hi => by
    have ha : (⟨w2.heap.size, 0, none⟩ : Addr).add i = ⟨w2.heap.size, i, none⟩ := by unfold Addr.add; split <;> simp_all
    rw [ha]
    by_cases hij : i = j
    · subst hij
      rw [World.cell?_setCell_same _ _ _ hcell, List.getElem_set_self]
      congr 2
      have : (UInt8.ofNat vv.toNat).toNat = vv.toNat := by
        rw [UInt8.toNat_ofNat']
        omega
      omega
    · rw [World.cell?_setCell_other _ _ _ _ (by intro e; injection e with _ e _; omega), Lib.bytesWorld_cell w2 5 b i (by omega), List.getElem_set_ne (by omega)]
      congr 3
      simp [List.getD_eq_getElem?_getD, Array.getElem?_eq_getElem (show i < b.data.size from by have : b.data.size = b.size := rfl; omega)])
  rw [hbl] at hbk
  have HB4 := Aside0.mk (below_set (g := w2.heap.size) HB3.out HB2.out.size (v := .int .u8 vv) (j := j))
  clear hbl
  go_wp2_with fail
  refine (seal_Take.calls k _ q1 q2 q3 _ HTk.out).mono ?_
  rintro e w5 ⟨rfl, hb⟩
  have HB5 := Aside0.mk (below_call HB4.out hb)
  clear hb hbk hcell hfz hcv
  have hH := HH.out
  cases up with
  | false => rw [if_neg (by decide)] at hH; cases hH
  | true =>
    rw [if_pos rfl] at hH
    obtain rfl := Option.some.inj hH
    clear hH
    go_wp2_with fail
    go_ret
    exact ⟨rfl, HB5.out⟩
end Go.Proofs.Ytkkkpmobdaebgaa.Pr
