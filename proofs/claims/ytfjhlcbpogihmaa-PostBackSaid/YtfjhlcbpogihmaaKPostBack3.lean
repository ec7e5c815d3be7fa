/- Several texts of one depth, laid together. Conditions: none. -/
import Derived.Test.YtfjhlcbpogihmaaKPostBack1
import Derived.Test.YtfjhlcbpogihmaaGPostBackHandBytes
import Derived.Test.YtfjhlcbpogihmaaKPostBack2
namespace Go.Proofs.Ytfjhlcbpogihmaa.Pr
open Go.RowKit Go.Proofs.YtfjhlcbpogihmaaW.PrintWords Go.Proofs.YtfjhlcbpogihmaaW.PrintLast Go.Proofs.YtfjhlcbpogihmaaW.PrintMore
attribute [local go_sem] max2_int max_four
set_option linter.unusedVariables false
set_option linter.unusedSimpArgs false
/-! ### ferrulelaw17_shown: function 30 -/
def ferrulelaw17_shown.f  : Option (Bool) := (post_Bytes.f 4 1 2 3 0 0 0 true ([] : List (S75)) (⟨#[]⟩ : ByteArray)).bind fun bt396 => (if bt396.2 = 0 then (if (bt396.1.size : Int) = 16 then (if 0 ≤ 12 then (if 12 ≤ (bt396.1.size : Int) then (some ((bt396.1.extract 0 12).toList == ([11, 7, 4, 1, 2, 3, 0, 0, 0, 1, 0, 0] : List UInt8))) else (none)) else (none)) else (some false)) else (some false))
set_option maxHeartbeats 8000000 in
set_option maxRecDepth 100000 in
theorem ferrulelaw17_shown.calls  (r : Bool) (w : World) (h : ferrulelaw17_shown.f  = some r) :
    Calls Try.prog 30 #[] w fun e w' => e = .returned (.bool r) ∧ Below w.heap.size w w' := by
  have hu57 := Try.underlying57
  have HB := Aside0.mk (Below.refl w.heap.size w)
  have H : ((post_Bytes.f 4 1 2 3 0 0 0 true ([] : List (S75)) (⟨#[]⟩ : ByteArray)).bind fun bt396 => (if bt396.2 = 0 then (if (bt396.1.size : Int) = 16 then (if 0 ≤ 12 then (if 12 ≤ (bt396.1.size : Int) then (some ((bt396.1.extract 0 12).toList == ([11, 7, 4, 1, 2, 3, 0, 0, 0, 1, 0, 0] : List UInt8))) else (none)) else (none)) else (some false)) else (some false))) = some r := h
  clear h
  replace H := Option.bind_eq_some_iff.mp H
  obtain ⟨⟨t396, t397⟩, A10, H⟩ := H
  replace H : (if t397 = 0 then (if (t396.size : Int) = 16 then (if 0 ≤ 12 then (if 12 ≤ (t396.size : Int) then (some ((t396.extract 0 12).toList == ([11, 7, 4, 1, 2, 3, 0, 0, 0, 1, 0, 0] : List UInt8))) else (none)) else (none)) else (some false)) else (some false)) = some r := H
  have A1 := Aside0.mk A10
  clear A10
  by_cases c2 : t397 = 0
  · rw [if_pos c2] at H
    have c2b0 : (t397 == 0) = true := beq_iff_eq.mpr c2
    have c2b1 : (t397 != 0) = false := bne_eq_false_iff_eq.mpr c2
    clear c2
    by_cases c3 : (t396.size : Int) = 16
    · rw [if_pos c3] at H
      have c3b0 : ((t396.size : Int) == 16) = true := beq_iff_eq.mpr c3
      have c3b1 : ((t396.size : Int) != 16) = false := bne_eq_false_iff_eq.mpr c3
      clear c3
      by_cases c4 : 0 ≤ 12
      · rw [if_pos c4] at H
        have c4b0 := eq_true c4
        have c4b1 : decide (0 ≤ 12) = true := decide_eq_true c4
        clear c4
        by_cases c5 : 12 ≤ (t396.size : Int)
        · rw [if_pos c5] at H
          have c5b0 := eq_true c5
          have c5b1 : decide (12 ≤ (t396.size : Int)) = true := decide_eq_true c5
          clear c5
          obtain rfl := Option.some.inj H
          go_enter Try.func30, Try.ntmps30
          go_wp2_with (first | ((with_reducible refine gate_callee (f := 31) rfl ?_); refine goesL_ (some 5) rfl rfl Try.func31 (by kernel_rfl) rfl #[.agg #[.int .i64 4, .int .u64 1, .int .u64 2, .int .u64 3, .int .u64 0, .int .u64 0, .int .u64 0, .bool true, .slice none 0 0, .string (⟨#[]⟩ : ByteArray)]] rfl (by (try simp only [List.map_toArray, List.map_cons, List.map_nil]); first | done | rfl | (simp only [List.length_drop, List.length_take]; rfl)) ?_; (refine (post_Bytes.calls 4 1 2 3 0 0 0 true _ _ ([] : List (S75)) (⟨#[]⟩ : ByteArray) t396 t397 _ ?side1 ?side2 A1.out).mono ?_); (case side1 => exact Kd.C_nil _ _); (case side2 => exact Nat.le_refl _); rintro e w6 ⟨rfl, hb⟩; refine ⟨_, rfl, ?_⟩; have n0_ := Aside0.mk (below_step (by repeat (first | (with_reducible first | exact HB.out | apply below_alloc | apply pw_below_drewN | apply below_drew1) | exact HB.out | exact Below.refl _ _)) hb); clear HB; have HB := n0_; clear n0_; (try clear hb); (try clear hb2); (try clear hk); (try clear hi)))
          go_ret
          exact ⟨by first | rfl | (simp [errW_none, errW_some] <;> rfl) | (simp [*, errW_none, errW_some] <;> rfl), by repeat (first | (with_reducible first | exact HB.out | apply below_alloc | apply pw_below_drewN | apply below_drew1) | exact HB.out)⟩
        · rw [if_neg c5] at H
          exact absurd H (by simp)
      · rw [if_neg c4] at H
        exact absurd H (by simp)
    · rw [if_neg c3] at H
      have c3b0 : ((t396.size : Int) == 16) = false := beq_eq_false_iff_ne.mpr c3
      have c3b1 : ((t396.size : Int) != 16) = true := bne_iff_ne.mpr c3
      obtain rfl := Option.some.inj H
      go_enter Try.func30, Try.ntmps30
      go_wp2_with (first | ((with_reducible refine gate_callee (f := 31) rfl ?_); refine goesL_ (some 5) rfl rfl Try.func31 (by kernel_rfl) rfl #[.agg #[.int .i64 4, .int .u64 1, .int .u64 2, .int .u64 3, .int .u64 0, .int .u64 0, .int .u64 0, .bool true, .slice none 0 0, .string (⟨#[]⟩ : ByteArray)]] rfl (by (try simp only [List.map_toArray, List.map_cons, List.map_nil]); first | done | rfl | (simp only [List.length_drop, List.length_take]; rfl)) ?_; (refine (post_Bytes.calls 4 1 2 3 0 0 0 true _ _ ([] : List (S75)) (⟨#[]⟩ : ByteArray) t396 t397 _ ?side1 ?side2 A1.out).mono ?_); (case side1 => exact Kd.C_nil _ _); (case side2 => exact Nat.le_refl _); rintro e w7 ⟨rfl, hb⟩; refine ⟨_, rfl, ?_⟩; have n0_ := Aside0.mk (below_step (by repeat (first | (with_reducible first | exact HB.out | apply below_alloc | apply pw_below_drewN | apply below_drew1) | exact HB.out | exact Below.refl _ _)) hb); clear HB; have HB := n0_; clear n0_; (try clear hb); (try clear hb2); (try clear hk); (try clear hi)))
      go_ret
      exact ⟨by first | rfl | (simp [errW_none, errW_some] <;> rfl) | (simp [*, errW_none, errW_some] <;> rfl), by repeat (first | (with_reducible first | exact HB.out | apply below_alloc | apply pw_below_drewN | apply below_drew1) | exact HB.out)⟩
  · rw [if_neg c2] at H
    have c2b0 : (t397 == 0) = false := beq_eq_false_iff_ne.mpr c2
    have c2b1 : (t397 != 0) = true := bne_iff_ne.mpr c2
    obtain rfl := Option.some.inj H
    go_enter Try.func30, Try.ntmps30
    go_wp2_with (first | ((with_reducible refine gate_callee (f := 31) rfl ?_); refine goesL_ (some 5) rfl rfl Try.func31 (by kernel_rfl) rfl #[.agg #[.int .i64 4, .int .u64 1, .int .u64 2, .int .u64 3, .int .u64 0, .int .u64 0, .int .u64 0, .bool true, .slice none 0 0, .string (⟨#[]⟩ : ByteArray)]] rfl (by (try simp only [List.map_toArray, List.map_cons, List.map_nil]); first | done | rfl | (simp only [List.length_drop, List.length_take]; rfl)) ?_; (refine (post_Bytes.calls 4 1 2 3 0 0 0 true _ _ ([] : List (S75)) (⟨#[]⟩ : ByteArray) t396 t397 _ ?side1 ?side2 A1.out).mono ?_); (case side1 => exact Kd.C_nil _ _); (case side2 => exact Nat.le_refl _); rintro e w8 ⟨rfl, hb⟩; refine ⟨_, rfl, ?_⟩; have n0_ := Aside0.mk (below_step (by repeat (first | (with_reducible first | exact HB.out | apply below_alloc | apply pw_below_drewN | apply below_drew1) | exact HB.out | exact Below.refl _ _)) hb); clear HB; have HB := n0_; clear n0_; (try clear hb); (try clear hb2); (try clear hk); (try clear hi)))
    go_ret
    exact ⟨by first | rfl | (simp [errW_none, errW_some] <;> rfl) | (simp [*, errW_none, errW_some] <;> rfl), by repeat (first | (with_reducible first | exact HB.out | apply below_alloc | apply pw_below_drewN | apply below_drew1) | exact HB.out)⟩
end Go.Proofs.Ytfjhlcbpogihmaa.Pr
namespace Go.Proofs.Ytfjhlcbpogihmaa.Pr
open Go.RowKit Go.Proofs.YtfjhlcbpogihmaaW.PrintWords Go.Proofs.YtfjhlcbpogihmaaW.PrintLast Go.Proofs.YtfjhlcbpogihmaaW.PrintMore
open Go.Proofs.Ytfjhlcbpogihmaa.Hnd
set_option linter.unusedVariables false
set_option linter.unusedSimpArgs false
/-- The entries' bytes, as the document has them, behind those that are there. -/
def rentsF (k : Nat) : List S75 → List UInt8 → Option (List UInt8)
  | [], acc => some acc
  | e :: r, acc => (ferruleref01_Num.f k e.f0).bind fun n => (ferruleref01_Text.f k e.f1).bind fun t => if n.1.size + t.1.size ≤ 4611686018427387904 ∧ acc.length + (n.1 ++ t.1).size ≤ 140737488355328 then rentsF k r (acc ++ (n.1 ++ t.1).data.toList) else none
def ferruleref17_Bytes.f (k : Nat) (a0_0 a0_1 a0_2 a0_3 a0_4 a0_5 a0_6 : Int) (a0_7 : Bool) (l0_8 : List S75) (a0_9 : ByteArray) : Option (ByteArray × Int) :=
  (ferruleref17_May.f k a0_0 a0_1 a0_2 a0_3 a0_4 a0_5 a0_6 a0_7 l0_8 a0_9).bind fun m => if m = true then
    (ref_Nums.f k [IntKind.u64.wrap a0_0, a0_1, a0_2, a0_3, a0_4, a0_5, a0_6]).bind fun b => if b.1.size ≤ 140737488355320 ∧ l0_8.length < 256 then
      (rentsF k l0_8 (b.1.data.toList ++ [if a0_7 = true then 1 else 0, UInt8.ofNat l0_8.length])).bind fun c => (ferruleref01_Text.f k a0_9).bind fun t =>
        if c.length + t.1.size ≤ 140737488355328 then ferruleref02_Put.f k ⟨(c ++ t.1.data.toList).toArray⟩ else none
      else none
    else some ((⟨#[]⟩ : ByteArray), 1)
end Go.Proofs.Ytfjhlcbpogihmaa.Pr
namespace Go.Proofs.Ytfjhlcbpogihmaa.Pr
open Go.RowKit Go.Proofs.YtfjhlcbpogihmaaW.PrintWords Go.Proofs.YtfjhlcbpogihmaaW.PrintLast Go.Proofs.YtfjhlcbpogihmaaW.PrintMore
set_option linter.unusedVariables false
set_option linter.unusedSimpArgs false
theorem mx4_gt (a b c d M : Int) : mx4 a b c d > M ↔ (a > M ∨ b > M ∨ c > M ∨ d > M) := by
  unfold mx4
  repeat' split
  all_goals omega
theorem may_facts {kd f t tm i lt cm : Int} {ok : Bool} {es : List S75} {s : ByteArray} (h : mayB kd f t tm i lt cm ok es s = true) :
    (1 ≤ kd ∧ kd ≤ 7) ∧ (1 ≤ f ∧ f ≤ 63) ∧ (1 ≤ t ∧ t ≤ 63) ∧ tm ≤ 4611686018427387903 ∧ i ≤ 4611686018427387903 ∧ lt ≤ 4611686018427387903 ∧ cm ≤ 4611686018427387903 ∧ es.length ≤ 8 ∧ s.size ≤ 4096 ∧ (∀ e ∈ es, e.f0 ≤ 4611686018427387903 ∧ e.f1.size ≤ 4096) := by
  unfold mayB at h
  by_cases a1 : isK kd = true
  rotate_left
  · rw [if_neg a1] at h; cases h
  rw [if_pos a1] at h
  unfold isK at a1
  simp only [Bool.and_eq_true, decide_eq_true_eq] at a1
  by_cases a3 : f < 1
  · rw [if_pos a3] at h; cases h
  rw [if_neg a3] at h
  by_cases a4 : f > 63
  · rw [if_pos a4] at h; cases h
  rw [if_neg a4] at h
  by_cases a5 : t < 1
  · rw [if_pos a5] at h; cases h
  rw [if_neg a5] at h
  by_cases a6 : t > 63
  · rw [if_pos a6] at h; cases h
  rw [if_neg a6] at h
  by_cases a7 : mx4 tm i lt cm > 4611686018427387903
  · rw [if_pos a7] at h; cases h
  rw [if_neg a7] at h
  rw [mx4_gt] at a7
  by_cases b2 : (es.length : Int) > 8
  · rw [if_pos b2] at h; cases h
  rw [if_neg b2] at h
  by_cases b3 : (s.size : Int) > 4096
  · rw [if_pos b3] at h; cases h
  rw [if_neg b3] at h
  by_cases b4 : es.any oddE = true
  · rw [if_pos b4] at h; cases h
  refine ⟨a1, by omega, by omega, by omega, by omega, by omega, by omega, by omega, by omega, fun e he => ?_⟩
  have : ¬ oddE e = true := fun c => b4 (List.any_eq_true.2 ⟨e, he, c⟩)
  unfold oddE at this
  rw [Bool.or_eq_true, decide_eq_true_eq, decide_eq_true_eq] at this
  omega
theorem entsF_ok : ∀ (l : List S75) (acc : List UInt8), (∀ e ∈ l, e.f0 ≤ 4611686018427387903 ∧ e.f1.size ≤ 4096) → (∀ e ∈ l, 0 ≤ e.f0) → acc.length + 4112 * l.length ≤ 140737488355328 → entsF l acc = some (acc ++ (esB l).data.toList)
  | [], acc, _, _, _ => by rw [entsF, esB]; simp
  | e :: r, acc, h, h0, hb => by
    have he := h e (List.mem_cons_self ..)
    have hn := nB_le e.f0
    have ht := tB_le e.f1
    rw [List.length_cons] at hb
    rw [entsF, num_ok (h0 e (List.mem_cons_self ..)) he.1]
    simp only [Option.bind_some]
    rw [text_ok he.2]
    simp only [Option.bind_some]
    rw [if_pos ⟨by omega, by rw [ByteArray.size_append]; omega⟩, entsF_ok r _ (fun x hx => h x (List.mem_cons_of_mem _ hx)) (fun x hx => h0 x (List.mem_cons_of_mem _ hx)) (by rw [List.length_append, dlen, ByteArray.size_append]; omega), esB, app_list _ (esB r), List.append_assoc]
theorem addF_ok (acc : List UInt8) (s : ByteArray) (e : Int) (h : acc.length + s.size ≤ 140737488355328) : addF acc (some (s, e)) = some (acc ++ s.data.toList) := by
  unfold addF
  simp only [Option.bind_some]
  rw [if_pos h]
/-- A message's text. -/
def bodyA (kd f t tm i lt cm : Int) (ok : Bool) (es : List S75) (s : ByteArray) : ByteArray :=
  (((nsB [7, kd, f, t, tm, i, lt, cm] ++ nB (if ok = true then 1 else 0)) ++ nB (es.length : Int)) ++ esB es) ++ tB s
theorem bodyA_le {kd f t tm i lt cm : Int} {ok : Bool} {es : List S75} {s : ByteArray} (hl : es.length ≤ 8) (hs : s.size ≤ 4096) (he : ∀ e ∈ es, e.f0 ≤ 4611686018427387903 ∧ e.f1.size ≤ 4096) : (bodyA kd f t tm i lt cm ok es s).size ≤ 65536 := by
  have h1 := nsB_le [7, kd, f, t, tm, i, lt, cm]
  have h2 := nB_le (if ok = true then 1 else 0)
  have h3 := nB_le (es.length : Int)
  have h4 := esB_le es he
  have h5 := tB_le s
  unfold bodyA
  simp only [ByteArray.size_append, List.length_cons, List.length_nil] at *
  omega
theorem w_kind {x : Int} (h0 : 1 ≤ x) (h1 : x ≤ 7) : IntKind.u64.wrap x = x := by
  simp [IntKind.wrap, IntKind.signed, IntKind.bits]
  omega
theorem bytes_1 {kd f t tm i lt cm : Int} {ok : Bool} {es : List S75} {s : ByteArray} (h : mayB kd f t tm i lt cm ok es s = true) (g1 : 0 ≤ tm) (g2 : 0 ≤ i) (g3 : 0 ≤ lt) (g4 : 0 ≤ cm) (g5 : ∀ e ∈ es, 0 ≤ e.f0) :
    post_Bytes.f kd f t tm i lt cm ok es s = some (sealB (bodyA kd f t tm i lt cm ok es s), 0) := by
  obtain ⟨hk, hf, ht, e1, e2, e3, e4, hl, hs, he⟩ := may_facts h
  have hN : pack_Nums.f [kd, f, t, tm, i, lt, cm] = some (nsB [7, kd, f, t, tm, i, lt, cm], 0) := nums_ok [kd, f, t, tm, i, lt, cm] (by simp only [List.mem_cons, List.not_mem_nil, or_false]; rintro x (rfl | rfl | rfl | rfl | rfl | rfl | rfl) <;> omega) (by simp)
  have h1 := nsB_le [7, kd, f, t, tm, i, lt, cm]
  have h2 := nB_le (if ok = true then 1 else 0)
  have h3 := nB_le (es.length : Int)
  have h4 := esB_le es he
  have h5 := tB_le s
  have hb := bodyA_le (kd := kd) (f := f) (t := t) (tm := tm) (i := i) (lt := lt) (cm := cm) (ok := ok) hl hs he
  unfold post_Bytes.f post_May.f
  simp only [Option.bind_some]
  rw [if_pos h, w_kind hk.1 hk.2, hN, addF_ok _ _ _ (by simp only [List.length_cons, List.length_nil] at *; omega)]
  simp only [Option.bind_some, List.nil_append]
  rw [num_ok (by split <;> omega) (by split <;> omega), addF_ok _ _ _ (by rw [dlen]; simp only [List.length_cons, List.length_nil] at *; omega)]
  simp only [Option.bind_some]
  rw [show IntKind.u64.wrap (es.length : Int) = (es.length : Int) from by simp [IntKind.wrap, IntKind.signed, IntKind.bits]; omega, num_ok (by omega) (by omega), addF_ok _ _ _ (by simp only [List.length_append, dlen, List.length_cons, List.length_nil] at *; omega)]
  simp only [Option.bind_some]
  rw [entsF_ok es _ he g5 (by simp only [List.length_append, dlen, List.length_cons, List.length_nil] at *; omega)]
  simp only [Option.bind_some]
  rw [text_ok hs, addF_ok _ _ _ (by simp only [List.length_append, dlen, List.length_cons, List.length_nil] at *; omega)]
  simp only [Option.bind_some, mk_app, mk_self]
  exact put_f hb
theorem bytes_no1 {kd f t tm i lt cm : Int} {ok : Bool} {es : List S75} {s : ByteArray} (h : ¬ mayB kd f t tm i lt cm ok es s = true) : post_Bytes.f kd f t tm i lt cm ok es s = some ((⟨#[]⟩ : ByteArray), 1) := by
  unfold post_Bytes.f post_May.f
  simp only [Option.bind_some]
  rw [if_neg h]
end Go.Proofs.Ytfjhlcbpogihmaa.Pr
namespace Go.Proofs.Ytfjhlcbpogihmaa.Pr
open Go.RowKit Go.Proofs.YtfjhlcbpogihmaaW.PrintWords Go.Proofs.YtfjhlcbpogihmaaW.PrintLast Go.Proofs.YtfjhlcbpogihmaaW.PrintMore
set_option linter.unusedVariables false
set_option linter.unusedSimpArgs false
theorem pshown_true : ferrulelaw17_shown.f = some true := by decide +kernel
theorem wi4 {x : Int} (h0 : -9223372036854775808 ≤ x) (h1 : x < 9223372036854775808) : wrap64 x = x := by
  simp [wrap64]
  omega
theorem rd75_at4 (l : List S75) (i : Nat) (h : i < l.length) : rd_T75 l (i : Int) = l[i] := by simp [rd_T75, List.getD_eq_getElem?_getD, h]
/-- Are two lists of entries the same? -/
def eqE : List S75 → List S75 → Bool
  | [], [] => true
  | x :: r, y :: s => if (!(x.f0 == y.f0) || !(x.f1.toList == y.f1.toList)) = true then false else eqE r s
  | _, _ => false
theorem eqE_cons (x y : S75) (r s : List S75) : eqE (x :: r) (y :: s) = if (!(x.f0 == y.f0) || !(x.f1.toList == y.f1.toList)) = true then false else eqE r s := rfl
theorem ba_ext {a b : ByteArray} (h : a.toList = b.toList) : a = b := by
  rw [ByteArray.toList_eq, ByteArray.toList_eq] at h
  cases a; cases b
  congr
  exact Array.toList_inj.1 h
theorem eqE_iff : ∀ (a b : List S75), eqE a b = true ↔ a = b
  | [], [] => by simp [eqE]
  | [], _ :: _ => by simp [eqE]
  | _ :: _, [] => by simp [eqE]
  | x :: r, y :: s => by
    rw [eqE_cons]
    obtain ⟨x0, x1⟩ := x
    obtain ⟨y0, y1⟩ := y
    by_cases h0 : x0 = y0
    · by_cases h1 : x1.toList = y1.toList
      · have := ba_ext h1
        subst h0 this
        simp only [BEq.rfl, Bool.not_true, Bool.or_self]
        rw [if_neg (by decide), eqE_iff r s]
        simp
      · have hb : (x1.toList == y1.toList) = false := beq_eq_false_iff_ne.mpr h1
        rw [if_pos (by simp [hb])]
        simp
        intro _ h
        exact absurd (congrArg ByteArray.toList h) h1
    · have hb : (x0 == y0) = false := beq_eq_false_iff_ne.mpr h0
      rw [if_pos (by simp [hb])]
      simp
      intro h
      exact absurd h h0
theorem ent_l1 (a b : List S75) (hab : a.length = b.length) (hl : a.length ≤ 4611686018427387904) : ∀ (d i k : Nat), a.length - i = d → i ≤ a.length → d < k → api_Entry.l0 k a b (a.length : Int) (i : Int) = some (eqE (a.drop i) (b.drop i))
  | 0, i, k, hd, hi, hk => by
    obtain ⟨k, rfl⟩ : ∃ j, k = j + 1 := ⟨k - 1, by omega⟩
    simp only [api_Entry.l0]
    rw [if_neg (by omega), List.drop_of_length_le (by omega), List.drop_of_length_le (by omega)]
    rfl
  | d + 1, i, k, hd, hi, hk => by
    obtain ⟨k, rfl⟩ : ∃ j, k = j + 1 := ⟨k - 1, by omega⟩
    have ha : i < a.length := by omega
    have hb : i < b.length := by omega
    simp only [api_Entry.l0]
    rw [if_pos (by omega), if_pos (by omega), if_pos (by omega), if_pos (by omega), rd75_at4 a i ha, rd75_at4 b i hb, wi4 (x := (i : Int) + 1) (by omega) (by omega), show ((i : Int) + 1) = ((i + 1 : Nat) : Int) by omega,
      ent_l1 a b hab hl d (i + 1) k (by omega) (by omega) (by omega), List.drop_eq_getElem_cons ha, List.drop_eq_getElem_cons hb, eqE_cons]
    split <;> rfl
theorem ent_l2 (a b : List S75) (hab : a.length = b.length) (hl : a.length ≤ 4611686018427387904) : ∀ (d i k : Nat), a.length - i = d → i ≤ a.length → d < k → ferruleref05_Entries.l0 k a b (i : Int) = some (eqE (a.drop i) (b.drop i))
  | 0, i, k, hd, hi, hk => by
    obtain ⟨k, rfl⟩ : ∃ j, k = j + 1 := ⟨k - 1, by omega⟩
    simp only [ferruleref05_Entries.l0]
    rw [if_neg (by omega), List.drop_of_length_le (by omega), List.drop_of_length_le (by omega)]
    rfl
  | d + 1, i, k, hd, hi, hk => by
    obtain ⟨k, rfl⟩ : ∃ j, k = j + 1 := ⟨k - 1, by omega⟩
    have ha : i < a.length := by omega
    have hb : i < b.length := by omega
    simp only [ferruleref05_Entries.l0]
    rw [if_pos (by omega), if_pos (by omega), if_pos (by omega), rd75_at4 a i ha, rd75_at4 b i hb, wi4 (x := (i : Int) + 1) (by omega) (by omega), show ((i : Int) + 1) = ((i + 1 : Nat) : Int) by omega,
      ent_l2 a b hab hl d (i + 1) k (by omega) (by omega) (by omega), List.drop_eq_getElem_cons ha, List.drop_eq_getElem_cons hb, eqE_cons]
    split <;> rfl
theorem eqE_ne (a b : List S75) (h : ¬ a.length = b.length) : eqE a b = false := by
  cases he : eqE a b with
  | false => rfl
  | true => exact absurd (congrArg List.length ((eqE_iff a b).1 he)) h
theorem ent_1 (a b : List S75) (hl : a.length ≤ 4611686018427387904) (k : Nat) (hk : a.length < k) : api_Entry.f k a b = some (eqE a b) := by
  unfold api_Entry.f
  by_cases h : a.length = b.length
  · rw [if_pos (by omega), show (0 : Int) = ((0 : Nat) : Int) from rfl, ent_l1 a b h hl a.length 0 k (by omega) (by omega) hk]
    rfl
  · rw [if_neg (by omega), eqE_ne a b h]
theorem ent_2 (a b : List S75) (hl : a.length ≤ 4611686018427387904) (k : Nat) (hk : a.length < k) : ferruleref05_Entries.f k a b = some (eqE a b) := by
  unfold ferruleref05_Entries.f
  by_cases h : a.length = b.length
  · rw [if_pos (by omega), show (0 : Int) = ((0 : Nat) : Int) from rfl, ent_l2 a b h hl a.length 0 k (by omega) (by omega) hk]
    rfl
  · rw [if_neg (by omega), eqE_ne a b h]
/-- Two messages. -/
def sameM (a0 a1 a2 a3 a4 a5 a6 : Int) (a7 : Bool) (a8 : List S75) (a9 : ByteArray) (b0 b1 b2 b3 b4 b5 b6 : Int) (b7 : Bool) (b8 : List S75) (b9 : ByteArray) : Bool :=
  decide (a0 = b0 ∧ a1 = b1 ∧ a2 = b2 ∧ a3 = b3 ∧ a4 = b4 ∧ a5 = b5 ∧ a6 = b6 ∧ a7 = b7 ∧ eqE a8 b8 = true ∧ a9.toList = b9.toList)
theorem same_2 (a0 a1 a2 a3 a4 a5 a6 : Int) (a7 : Bool) (a8 : List S75) (a9 : ByteArray) (b0 b1 b2 b3 b4 b5 b6 : Int) (b7 : Bool) (b8 : List S75) (b9 : ByteArray) (hl : a8.length ≤ 4611686018427387904) (k : Nat) (hk : a8.length < k) :
    ferruleref17_Same.f k a0 a1 a2 a3 a4 a5 a6 a7 a8 a9 b0 b1 b2 b3 b4 b5 b6 b7 b8 b9 = some (sameM a0 a1 a2 a3 a4 a5 a6 a7 a8 a9 b0 b1 b2 b3 b4 b5 b6 b7 b8 b9) := by
  unfold ferruleref17_Same.f ferruleref08_SameMessage.f sameM
  rw [ent_2 a8 b8 hl k hk]
  simp only [Option.bind_some]
  by_cases h8 : eqE a8 b8 = true
  · rw [if_pos h8]
    by_cases h0 : a0 = b0
    · by_cases h1 : a1 = b1
      · by_cases h2 : a2 = b2
        · by_cases h3 : a3 = b3
          · by_cases h4 : a4 = b4
            · by_cases h5 : a5 = b5
              · by_cases h6 : a6 = b6
                · by_cases h7 : a7 = b7
                  · rw [if_pos h0, if_pos h1, if_pos h2, if_pos h3, if_pos h4, if_pos h5, if_pos h6, if_pos (by rw [h7]; simp)]
                    simp [h0, h1, h2, h3, h4, h5, h6, h7, h8]
                    exact Bool.eq_iff_iff.2 (by simp)
                  · rw [if_pos h0, if_pos h1, if_pos h2, if_pos h3, if_pos h4, if_pos h5, if_pos h6, if_neg (by simp [h7])]
                    simp [h7]
                · rw [if_pos h0, if_pos h1, if_pos h2, if_pos h3, if_pos h4, if_pos h5, if_neg h6]
                  simp [h6]
              · rw [if_pos h0, if_pos h1, if_pos h2, if_pos h3, if_pos h4, if_neg h5]
                simp [h5]
            · rw [if_pos h0, if_pos h1, if_pos h2, if_pos h3, if_neg h4]
              simp [h4]
          · rw [if_pos h0, if_pos h1, if_pos h2, if_neg h3]
            simp [h3]
        · rw [if_pos h0, if_pos h1, if_neg h2]
          simp [h2]
      · rw [if_pos h0, if_neg h1]
        simp [h1]
    · rw [if_neg h0]
      simp [h0]
  · rw [if_neg h8]
    simp [h8]
theorem sameM_self (a0 a1 a2 a3 a4 a5 a6 : Int) (a7 : Bool) (a8 : List S75) (a9 : ByteArray) : sameM a0 a1 a2 a3 a4 a5 a6 a7 a8 a9 a0 a1 a2 a3 a4 a5 a6 a7 a8 a9 = true := by
  unfold sameM
  exact decide_eq_true ⟨rfl, rfl, rfl, rfl, rfl, rfl, rfl, rfl, (eqE_iff a8 a8).2 rfl, rfl⟩
end Go.Proofs.Ytfjhlcbpogihmaa.Pr
namespace Go.Proofs.Ytfjhlcbpogihmaa.Pr
open Go.RowKit Go.Proofs.YtfjhlcbpogihmaaW.PrintWords Go.Proofs.YtfjhlcbpogihmaaW.PrintLast Go.Proofs.YtfjhlcbpogihmaaW.PrintMore
set_option linter.unusedVariables false
set_option linter.unusedSimpArgs false
end Go.Proofs.Ytfjhlcbpogihmaa.Pr
