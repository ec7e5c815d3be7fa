/- rlog.Right: what it computes, and that it does. Conditions: none. -/
import Derived.Test.YtbejichfgednhaaPr0
import Derived.Test.YtbejichfgednhaaHnd
namespace Go.Proofs.Ytbejichfgednhaa.Pr
open Go.RowKit Go.Proofs.YtbejichfgednhaaW.PrintWords Go.Proofs.YtbejichfgednhaaW.PrintLast Go.Proofs.YtbejichfgednhaaW.PrintMore
open Go.Proofs.Ytbejichfgednhaa.Hnd
attribute [local go_sem] setCell_drewN_ alloc_drewN_
set_option linter.unusedVariables false
set_option linter.unusedSimpArgs false
/-- Short names. -/
theorem am_ {p : Prop} (h : p) : Aside0 p := Aside0.mk h
theorem bN_ {B : Nat} {w W : World} (h : Below B w W) (n : Nat) : Below B w (W.drewN n) := pw_below_drewN h n
/-- Does no term fall? -/
def risesB (t : Int) : List S36 → Bool
  | [] => true
  | e :: r => !(decide (e.f0 < t)) && risesB e.f0 r
theorem risesB_at (t : Int) (l : List S36) (i : Nat) (h : i < l.length) : risesB t (l.drop i) = (!(decide ((rd_T36 l (i : Int)).f0 < t)) && risesB (rd_T36 l (i : Int)).f0 (l.drop (i + 1))) := by
  rw [List.drop_eq_getElem_cons h]
  have e : rd_T36 l (i : Int) = l[i] := by simp [rd_T36, List.getD_eq_getElem?_getD, h]
  rw [e]
  rfl
def Idx (b : Bool) (w0 : World) (e : Ending) (w' : World) : Prop := ∃ r : Int, e = .returned (.int .i64 r) ∧ decide (r ≥ 0) = b ∧ Below w0.heap.size w0 w'
set_option maxHeartbeats 1000000 in
set_option maxRecDepth 100000 in
theorem right_index (A : Option Addr) (c : Nat) (l : List S36) (t : Int) (bt : Nat) (w0 w : World) (hr : Kd.C k36 w0 A l.length l) (hc : l.length ≤ c) (hb : w.heap[bt]? = some (.cells #[.int .u64 t] 22 (0, 0))) (h0 : Below w0.heap.size w0 w) (hbt : w0.heap.size ≤ bt) :
    Calls Try.prog 37 #[.slice A l.length c, .func (.func 36) #[] #[.pointer (some ⟨bt, 0, none⟩)]] w (Idx (!(risesB t l)) w0) := by
  have HR := Aside0.mk hr
  have HL : l.length ≤ 9223372036854775807 := hr.2.1
  have HB0 := Aside0.mk hb
  have HW0 := Aside0.mk h0
  clear hr hb h0
  go_enter Try.func37, Try.ntmps37
  go_wp2_with fail
  go_loopg [5, 8] l.length (fun g v5 v8 wr => ∃ (i : Nat) (tc : Int), v8 = .int .i64 (i : Int) ∧ Aside0 (i ≤ l.length ∧ l.length - i ≤ g) ∧ Aside0 (risesB t l = risesB tc (l.drop i)) ∧ Aside0 (wr.heap[bt]? = some (.cells #[.int .u64 tc] 22 (0, 0))) ∧ Aside0 (Below w0.heap.size w0 wr))
  case atStart => exact ⟨0, t, rfl, ⟨by omega⟩, ⟨rfl⟩, HB0, HW0⟩
  case round =>
    clear HB0 HW0
    obtain ⟨i, tc, rfl, HI, HT, HK, HB⟩ := hrel
    have kb0 := blk_cell HK.out 0
    have fb0 := blk_frozen HK.out 0
    have zb := blk_lt HK.out
    by_cases hlt : (i : Int) < l.length
    · have hltb := decide_eq_true hlt
      obtain ⟨ad, rfl, e0, e1⟩ := at_T36 HR.out (i : Int) (by omega) hlt
      simp only [Int.toNat_natCast] at e0 e1
      have L0 := World.block_lt_of_cell? w0 _ e0
      have e0' := (HB.out.cell L0).trans e0
      have e1' := (HB.out.cell (World.block_lt_of_cell? w0 _ e1)).trans e1
      obtain ⟨⟨x0, x1⟩, hx⟩ : ∃ x, rd_T36 l (i : Int) = x := ⟨_, rfl⟩
      have HX := Aside0.mk hx
      rw [hx] at e0' e1'
      clear hx e0 e1
      simp only at e0' e1'
      have hn1 : ¬ (bt = wr.heap.size) := by omega
      by_cases hf : x0 < tc
      · have hfb := decide_eq_true hf
        go_wp2_with go_in
        go_ret
        refine ⟨(i : Int), rfl, ?_, (HB.out.setCell (p := ⟨bt, 0, none⟩) hbt _).alloc (HB.out.setCell (p := ⟨bt, 0, none⟩) hbt _).size _⟩
        rw [HT.out, risesB_at tc l i (by omega), HX.out]
        simp [hf]
      · have hfb := decide_eq_false hf
        go_wp2_with go_in
        go_roundg (gk - 1)
        case measure => have := HI.out; omega
        case rel =>
          refine ⟨i + 1, x0, by go_num, ⟨by have := HI.out; omega⟩, ⟨?_⟩, ⟨?_⟩, ⟨?_⟩⟩
          · rw [HT.out, risesB_at tc l i (by omega), HX.out]
            simp [hf]
          · exact blk_alloc (blk_put (cs' := #[.int .u64 x0]) HK.out 0 _ rfl) _
          · exact (HB.out.setCell (p := ⟨bt, 0, none⟩) hbt _).alloc (HB.out.setCell (p := ⟨bt, 0, none⟩) hbt _).size _
    · have hltb := decide_eq_false hlt
      go_wp2
      go_ret
      refine ⟨-1, rfl, ?_, HB.out⟩
      have hie : i = l.length := by have := HI.out; omega
      rw [HT.out, hie, List.drop_length]
      rfl
theorem blk_newAt {W : World} {o : Obj} (n : Nat) (hn : W.heap.size = n) : (W.alloc o).heap[n]? = some o := hn ▸ blk_new W o
def rlog_Right.f (a0_0 : Int) (a0_1 : Int) (a0_2 : ByteArray) (l0_3 : List S36) : Option Bool := some (!(decide (1099511627776 < a0_0)) && !(decide (1024 < (l0_3.length : Int))) && risesB a0_1 l0_3)
set_option maxHeartbeats 1000000 in
set_option maxRecDepth 100000 in
theorem rlog_Right.calls (a0_0 : Int) (a0_1 : Int) (a0_2 : ByteArray) (A0_3 : Option Addr) (c0_3 : Nat) (l0_3 : List S36) (r : Bool) (w : World) (hr0_3 : Kd.C k36 w A0_3 l0_3.length l0_3) (hc0_3 : l0_3.length ≤ c0_3) (h : rlog_Right.f a0_0 a0_1 a0_2 l0_3 = some r) :
    Calls Try.prog 27 #[.agg #[.int .u64 a0_0, .int .u64 a0_1, .string a0_2, .slice A0_3 l0_3.length c0_3]] w fun e w' => e = .returned (.bool r) ∧ Below w.heap.size w w' := by
  obtain rfl := Option.some.inj h
  have HR := Aside0.mk hr0_3
  clear h hr0_3
  by_cases c1 : 1099511627776 < a0_0
  · have c1b := decide_eq_true c1
    rw [c1b]
    go_enter Try.func27, Try.ntmps27
    go_wp2_with fail
    go_ret
    exact ⟨rfl, (Below.refl _ _).alloc (Nat.le_refl _) _⟩
  · have c1b := decide_eq_false c1
    rw [c1b]
    by_cases c2 : 1024 < (l0_3.length : Int)
    · have c2b := decide_eq_true c2
      rw [c2b]
      go_enter Try.func27, Try.ntmps27
      go_wp2_with fail
      go_ret
      exact ⟨rfl, (Below.refl _ _).alloc (Nat.le_refl _) _⟩
    · have c2b := decide_eq_false c2
      rw [c2b]
      obtain ⟨q, hq⟩ : ∃ q, risesB a0_1 l0_3 = q := ⟨_, rfl⟩
      have HQ := Aside0.mk hq
      rw [hq]
      clear hq
      go_enter Try.func27, Try.ntmps27
      go_wp2_with (first | (go_at_call 37; refine Calls.mono (right_index A0_3 c0_3 l0_3 a0_1 (w.heap.size + 1) w _ HR.out hc0_3 ?hb ?h0 ?hbt) ?_; (case hb => (repeat (first | exact blk_newAt _ (by simp) | refine blk_alloc ?_ _))); (case h0 => exact below_alloc (below_alloc (Below.refl _ _) _) _); (case hbt => exact Nat.le_succ _); rintro e w' ⟨r, rfl, hr, hb⟩; rw [HQ.out] at hr) | go_in)
      go_ret
      refine ⟨?_, hb⟩
      cases q <;> simp_all
end Go.Proofs.Ytbejichfgednhaa.Pr
