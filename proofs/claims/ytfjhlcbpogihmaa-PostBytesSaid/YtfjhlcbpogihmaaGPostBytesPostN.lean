/- Which messages may be, and their bytes: plain laws. Conditions: none. -/
import Derived.Test.YtfjhlcbpogihmaaKPostBytes2
import Derived.Test.YtfjhlcbpogihmaaGPostBytesHandRBytes
namespace Go.Proofs.Ytfjhlcbpogihmaa.Pr
open Go.RowKit Go.Proofs.YtfjhlcbpogihmaaW.PrintWords Go.Proofs.YtfjhlcbpogihmaaW.PrintLast Go.Proofs.YtfjhlcbpogihmaaW.PrintMore
set_option linter.unusedVariables false
set_option linter.unusedSimpArgs false
theorem wi5 {x : Int} (h0 : -9223372036854775808 ≤ x) (h1 : x < 9223372036854775808) : wrap64 x = x := by
  simp [wrap64]
  omega
theorem rd75_at5 (l : List S75) (i : Nat) (h : i < l.length) : rd_T75 l (i : Int) = l[i] := by simp [rd_T75, List.getD_eq_getElem?_getD, h]
theorem mx4_gt (a b c d M : Int) : mx4 a b c d > M ↔ (a > M ∨ b > M ∨ c > M ∨ d > M) := by
  unfold mx4
  repeat' split
  all_goals omega
theorem toNil5 {a : ByteArray} : (a.toList == ([] : List UInt8)) = decide ((a.size : Int) = 0) := by
  have h := toList_nil (a := a)
  by_cases c : (a.size : Int) = 0
  · rw [decide_eq_true c, h.2 c]; rfl
  · rw [decide_eq_false c]
    simpa using fun e => c (h.1 e)
/-- What stands behind the loop. -/
theorem rmay_rest (kd f t tm i lt cm : Int) (ok : Bool) (es : List S75) (s : ByteArray) (h1 : 1 ≤ kd) (h7 : kd ≤ 7) (hc : 0 ≤ cm) (x : Int) (hx : ¬ x < (es.length : Int)) (k : Nat) :
    ferruleref17_May.l0 (k + 3) x kd f t tm i lt cm ok es s = some (if mayL kd i lt = true then false else mayR kd cm ok es s) := by
  have hcases : kd = 1 ∨ kd = 2 ∨ kd = 3 ∨ kd = 4 ∨ kd = 5 ∨ kd = 6 ∨ kd = 7 := by omega
  have hcm : (cm == 0) = !decide (cm > 0) := by
    by_cases c : cm > 0
    · rw [decide_eq_true c, beq_eq_false_iff_ne.2 (by omega)]; rfl
    · rw [decide_eq_false c, beq_iff_eq.2 (by omega)]; rfl
  have hes : ((es.length : Int) == 0) = !decide ((es.length : Int) > 0) := by
    by_cases c : (es.length : Int) > 0
    · rw [decide_eq_true c]; simp at c ⊢; exact fun e => by simp [e] at c
    · rw [decide_eq_false c]; simp; simp at c; exact c
  have hs : decide ((s.size : Int) = 0) = !decide ((s.size : Int) > 0) := by
    by_cases c : (s.size : Int) > 0
    · rw [decide_eq_true c, decide_eq_false (by omega)]; rfl
    · rw [decide_eq_false c, decide_eq_true (by omega)]; rfl
  unfold mayL mayR
  rw [toNil5, hcm, hes, hs]
  rw [ferruleref17_May.l0, if_neg hx]
  generalize decide ((s.size : Int) > 0) = S
  by_cases c1 : cm > 0
  all_goals rcases Nat.eq_zero_or_pos es.length with c2 | c2
  all_goals rcases hcases with rfl | rfl | rfl | rfl | rfl | rfl | rfl
  all_goals by_cases c3 : i = 0
  all_goals by_cases c4 : lt = 0
  all_goals cases S
  all_goals cases ok
  all_goals simp [ferruleref17_May.j2, ferruleref17_May.j3, hI, hC, hT, hE, hS, c1, c2, c3, c4]
theorem rmay_loop (kd f t tm i lt cm : Int) (ok : Bool) (es : List S75) (s : ByteArray) (h1 : 1 ≤ kd) (h7 : kd ≤ 7) (hc : 0 ≤ cm) (hl : es.length ≤ 4611686018427387904) : ∀ (d j k : Nat), es.length - j = d → j ≤ es.length → d + 3 ≤ k →
    ferruleref17_May.l0 k (j : Int) kd f t tm i lt cm ok es s = some (if (es.drop j).any oddE = true then false else if mayL kd i lt = true then false else mayR kd cm ok es s)
  | 0, j, k, hd, hj, hk => by
    obtain ⟨k, rfl⟩ : ∃ m, k = m + 3 := ⟨k - 3, by omega⟩
    rw [rmay_rest kd f t tm i lt cm ok es s h1 h7 hc (j : Int) (by omega) k, List.drop_of_length_le (by omega)]
    rfl
  | d + 1, j, k, hd, hj, hk => by
    obtain ⟨k, rfl⟩ : ∃ m, k = m + 1 := ⟨k - 1, by omega⟩
    have hjl : j < es.length := by omega
    have ih := rmay_loop kd f t tm i lt cm ok es s h1 h7 hc hl d (j + 1) k (by omega) (by omega) (by omega)
    rw [ferruleref17_May.l0, if_pos (by omega), if_pos (by omega), rd75_at5 es j hjl, List.drop_eq_getElem_cons hjl, List.any_cons]
    by_cases c1 : es[j].f0 > 4611686018427387903
    · rw [if_pos c1]
      unfold oddE
      rw [decide_eq_true c1]
      rfl
    · rw [if_neg c1]
      by_cases c2 : (es[j].f1.size : Int) > 4096
      · rw [if_pos c2]
        have : oddE es[j] = true := by unfold oddE; rw [decide_eq_true c2, Bool.or_true]
        rw [this]
        rfl
      · rw [if_neg c2, wi5 (by omega) (by omega), show ((j : Int) + 1) = ((j + 1 : Nat) : Int) from by omega, ih]
        have : oddE es[j] = false := by unfold oddE; rw [decide_eq_false c1, decide_eq_false c2]; rfl
        rw [this, Bool.false_or]
theorem rmay_f (kd f t tm i lt cm : Int) (ok : Bool) (es : List S75) (s : ByteArray) (hc : 0 ≤ cm) (hl : es.length ≤ 4611686018427387904) (k : Nat) (hk : es.length + 4 ≤ k) :
    ferruleref17_May.f k kd f t tm i lt cm ok es s = some (mayB kd f t tm i lt cm ok es s) := by
  obtain ⟨k, rfl⟩ : ∃ m, k = m + 1 := ⟨k - 1, by omega⟩
  unfold ferruleref17_May.f mayB
  have j0t : ferruleref17_May.j0 (k + 1) true kd f t tm i lt cm ok es s = some false := by rw [ferruleref17_May.j0, if_pos rfl]
  by_cases a1 : kd < 1
  · rw [if_pos a1, j0t, show isK kd = false from by unfold isK; rw [decide_eq_false (by omega)]; rfl]; rfl
  rw [if_neg a1]
  by_cases a2 : kd > 7
  · rw [if_pos a2, j0t, show isK kd = false from by unfold isK; rw [decide_eq_false (show ¬ kd ≤ 7 by omega), Bool.and_false]]; rfl
  rw [if_neg a2, show isK kd = true from by unfold isK; rw [decide_eq_true (by omega), decide_eq_true (by omega)]; rfl, if_pos rfl]
  by_cases a3 : f < 1
  · rw [if_pos a3, if_pos a3, j0t]
  rw [if_neg a3, if_neg a3]
  by_cases a4 : f > 63
  · rw [if_pos a4, if_pos a4, j0t]
  rw [if_neg a4, if_neg a4]
  by_cases a5 : t < 1
  · rw [if_pos a5, if_pos a5, j0t]
  rw [if_neg a5, if_neg a5]
  by_cases a6 : t > 63
  · rw [if_pos a6, if_pos a6, j0t]
  rw [if_neg a6, if_neg a6]
  have hm := mx4_gt tm i lt cm 4611686018427387903
  by_cases a7 : tm > 4611686018427387903
  · rw [if_pos a7, j0t, if_pos (hm.2 (by omega))]
  rw [if_neg a7]
  by_cases a8 : i > 4611686018427387903
  · rw [if_pos a8, j0t, if_pos (hm.2 (by omega))]
  rw [if_neg a8]
  by_cases a9 : lt > 4611686018427387903
  · rw [if_pos a9, j0t, if_pos (hm.2 (by omega))]
  rw [if_neg a9]
  by_cases b1 : cm > 4611686018427387903
  · rw [if_pos b1, j0t, if_pos (hm.2 (by omega))]
  rw [if_neg b1, if_neg (show ¬ mx4 tm i lt cm > 4611686018427387903 from fun h => by have := hm.1 h; omega)]
  by_cases b2 : (es.length : Int) > 8
  · rw [if_pos b2, if_pos b2, j0t]
  rw [if_neg b2, if_neg b2]
  by_cases b3 : (s.size : Int) > 4096
  · rw [decide_eq_true b3, if_pos b3, j0t]
  rw [decide_eq_false b3, if_neg b3, ferruleref17_May.j0, if_neg (by decide)]
  have h := rmay_loop kd f t tm i lt cm ok es s (by omega) (by omega) hc hl es.length 0 k rfl (by omega) (by omega)
  rw [List.drop_zero] at h
  exact h
theorem may_facts {kd f t tm i lt cm : Int} {ok : Bool} {es : List S75} {s : ByteArray} (h : mayB kd f t tm i lt cm ok es s = true) :
    (1 ≤ kd ∧ kd ≤ 7) ∧ (1 ≤ f ∧ f ≤ 63) ∧ (1 ≤ t ∧ t ≤ 63) ∧ tm ≤ 4611686018427387903 ∧ i ≤ 4611686018427387903 ∧ lt ≤ 4611686018427387903 ∧ cm ≤ 4611686018427387903 ∧ es.length ≤ 8 ∧ s.size ≤ 4096 ∧ (∀ e ∈ es, e.f0 ≤ 4611686018427387903 ∧ e.f1.size ≤ 4096) := by
  unfold mayB at h
  by_cases a1 : isK kd = true
  rotate_left
  · rw [if_neg a1] at h; cases h
  rw [if_pos a1] at h
  unfold isK at a1
  simp only [Bool.and_eq_true, decide_eq_true_eq] at a1
  by_cases a3 : f < 1
  · rw [if_pos a3] at h; cases h
  rw [if_neg a3] at h
  by_cases a4 : f > 63
  · rw [if_pos a4] at h; cases h
  rw [if_neg a4] at h
  by_cases a5 : t < 1
  · rw [if_pos a5] at h; cases h
  rw [if_neg a5] at h
  by_cases a6 : t > 63
  · rw [if_pos a6] at h; cases h
  rw [if_neg a6] at h
  by_cases a7 : mx4 tm i lt cm > 4611686018427387903
  · rw [if_pos a7] at h; cases h
  rw [if_neg a7] at h
  rw [mx4_gt] at a7
  by_cases b2 : (es.length : Int) > 8
  · rw [if_pos b2] at h; cases h
  rw [if_neg b2] at h
  by_cases b3 : (s.size : Int) > 4096
  · rw [if_pos b3] at h; cases h
  rw [if_neg b3] at h
  by_cases b4 : es.any oddE = true
  · rw [if_pos b4] at h; cases h
  refine ⟨a1, by omega, by omega, by omega, by omega, by omega, by omega, by omega, by omega, fun e he => ?_⟩
  have : ¬ oddE e = true := fun c => b4 (List.any_eq_true.2 ⟨e, he, c⟩)
  unfold oddE at this
  rw [Bool.or_eq_true, decide_eq_true_eq, decide_eq_true_eq] at this
  omega
/-! The bytes. -/
def nB (v : Int) : ByteArray := strOfNums (numL v)
def nsB : List Int → ByteArray
  | [] => ⟨#[]⟩
  | v :: r => nB v ++ nsB r
def tB (a : ByteArray) : ByteArray := nB (a.size : Int) ++ a
def esB : List S75 → ByteArray
  | [] => ⟨#[]⟩
  | e :: r => (nB e.f0 ++ tB e.f1) ++ esB r
theorem mk_self (s : ByteArray) : (⟨s.data.toList.toArray⟩ : ByteArray) = s := by cases s; rw [Array.toArray_toList]
theorem mk_app (l m : List UInt8) : (⟨(l ++ m).toArray⟩ : ByteArray) = ⟨l.toArray⟩ ++ ⟨m.toArray⟩ := by
  rw [← List.append_toArray]
  apply ByteArray.ext
  rw [ByteArray.data_append]
theorem app_list (a b : ByteArray) : (a ++ b).data.toList = a.data.toList ++ b.data.toList := by rw [ByteArray.data_append, Array.toList_append]
theorem dlen (s : ByteArray) : s.data.toList.length = s.size := Array.length_toList
theorem nB_le (v : Int) : (nB v).size ≤ 8 := numL_le8 v
theorem nsB_le : ∀ l, (nsB l).size ≤ 8 * l.length
  | [] => Nat.le_refl _
  | v :: r => by
    have := nB_le v
    have := nsB_le r
    rw [nsB, ByteArray.size_append, List.length_cons]
    omega
theorem tB_le (a : ByteArray) : (tB a).size ≤ 8 + a.size := by
  have := nB_le (a.size : Int)
  rw [tB, ByteArray.size_append]
  omega
theorem esB_le : ∀ l : List S75, (∀ e ∈ l, e.f0 ≤ 4611686018427387903 ∧ e.f1.size ≤ 4096) → (esB l).size ≤ 4112 * l.length
  | [], _ => Nat.le_refl _
  | e :: r, h => by
    have := nB_le e.f0
    have := tB_le e.f1
    have := (h e (List.mem_cons_self ..)).2
    have := esB_le r (fun x hx => h x (List.mem_cons_of_mem _ hx))
    rw [esB, ByteArray.size_append, ByteArray.size_append, List.length_cons]
    omega
theorem num_ok {v : Int} (h0 : 0 ≤ v) (h1 : v ≤ 4611686018427387903) : pack_Num.f v = some (nB v, 0) := by
  rw [num_f (⟨h0, by omega⟩ : inU64 v)]
  unfold numE
  rw [if_pos (by omega)]
  rfl
theorem rnum_ok {v : Int} (h0 : 0 ≤ v) (h1 : v ≤ 4611686018427387903) : Ev (fun k => ferruleref01_Num.f k v) (nB v, 0) := by
  have h := refnum_ev (⟨h0, by omega⟩ : inU64 v)
  unfold numE at h
  rw [if_pos (by omega)] at h
  exact h
theorem text_ok {a : ByteArray} (h : a.size ≤ 4096) : pack_Text.f a = some (tB a, 0) := by
  have := nB_le (a.size : Int)
  unfold pack_Text.f
  rw [if_neg (by omega), num_ok (by omega) (by omega)]
  simp only [Option.bind_some]
  rw [if_pos (by omega)]
  rfl
theorem rtext_ok {a : ByteArray} (h : a.size ≤ 4096) : Ev (fun k => ferruleref01_Text.f k a) (tB a, 0) := by
  have := nB_le (a.size : Int)
  refine Ev.congr (f := fun k => (ferruleref01_Num.f k (a.size : Int)).bind fun bt405 => (if bt405.1.size + a.size ≤ 9223372036854775807 then (some (bt405.1 ++ a, 0)) else (none))) (fun k => by unfold ferruleref01_Text.f; rw [if_neg (by omega)]) ?_
  refine Ev.bind (rnum_ok (by omega) (by omega)) ?_
  exact Ev.congr (f := fun _ => some (tB a, 0)) (fun k => by dsimp only; rw [if_pos (by omega)]; rfl) (Ev.now _)
theorem numsF_ok : ∀ (l : List Int) (acc : List UInt8), (∀ x ∈ l, 0 ≤ x ∧ x ≤ 4611686018427387903) → acc.length + 8 * l.length ≤ 140737488355328 → numsF l acc = some ((⟨acc.toArray⟩ : ByteArray) ++ nsB l, 0)
  | [], acc, _, _ => by rw [numsF, nsB, ba_nil]
  | v :: r, acc, h, hb => by
    have hv := h v (List.mem_cons_self ..)
    have h8 := nB_le v
    rw [List.length_cons] at hb
    rw [numsF, num_ok hv.1 hv.2]
    simp only [Option.bind_some, if_true]
    rw [if_pos (by omega), numsF_ok r _ (fun x hx => h x (List.mem_cons_of_mem _ hx)) (by rw [List.length_append, dlen]; omega), mk_app, mk_self, nsB, ba_assoc]
theorem rnumsF_ok : ∀ (l : List Int) (acc : List UInt8), (∀ x ∈ l, 0 ≤ x ∧ x ≤ 4611686018427387903) → acc.length + 8 * l.length ≤ 140737488355328 → Ev (fun k => rnumsF k l acc) ((⟨acc.toArray⟩ : ByteArray) ++ nsB l, 0)
  | [], acc, _, _ => by
    refine Ev.congr (f := fun _ => some ((⟨acc.toArray⟩ : ByteArray) ++ nsB [], 0)) (fun k => ?_) (Ev.now _)
    rw [rnumsF, nsB, ba_nil]
  | v :: r, acc, h, hb => by
    have hv := h v (List.mem_cons_self ..)
    have h8 := nB_le v
    rw [List.length_cons] at hb
    refine Ev.congr (f := fun k => (ferruleref01_Num.f k v).bind fun b => if b.2 = 0 then (if acc.length + b.1.size ≤ 140737488355328 then rnumsF k r (acc ++ b.1.data.toList) else none) else some ((⟨#[]⟩ : ByteArray), b.2)) (fun k => by rw [rnumsF]) ?_
    refine Ev.bind (rnum_ok hv.1 hv.2) ?_
    have ih := rnumsF_ok r (acc ++ (nB v).data.toList) (fun x hx => h x (List.mem_cons_of_mem _ hx)) (by rw [List.length_append, dlen]; omega)
    rw [mk_app, mk_self, ba_assoc] at ih
    refine Ev.congr (fun k => ?_) ih
    dsimp only
    rw [if_pos rfl, if_pos (by omega)]
theorem nums_ok (l : List Int) (h : ∀ x ∈ l, 0 ≤ x ∧ x ≤ 4611686018427387903) (hl : l.length ≤ 1000) : pack_Nums.f l = some (nsB ((l.length : Int) :: l), 0) := by
  unfold pack_Nums.f
  rw [if_pos (by omega), numsF_ok _ _ (fun x hx => by rcases List.mem_cons.1 hx with rfl | hx <;> first | exact h x hx | omega) (by simp only [List.length_cons, List.length_nil]; omega)]
  rw [show (⟨([] : List UInt8).toArray⟩ : ByteArray) = ⟨#[]⟩ from rfl, nil_ba]
theorem rnums_ok (l : List Int) (h : ∀ x ∈ l, 0 ≤ x ∧ x ≤ 4611686018427387903) (hl : l.length ≤ 1000) : Ev (fun k => ref_Nums.f k l) (nsB ((l.length : Int) :: l), 0) := by
  have h8 := nB_le (l.length : Int)
  refine Ev.congr (f := fun k => (ferruleref01_Num.f k (l.length : Int)).bind fun b => (if b.1.size ≤ 140737488355328 then rnumsF k l b.1.data.toList else none)) (fun k => by unfold ref_Nums.f; rw [if_pos (by omega)]) ?_
  refine Ev.bind (rnum_ok (by omega) (by omega)) ?_
  have ih := rnumsF_ok l (nB (l.length : Int)).data.toList h (by rw [dlen]; omega)
  rw [mk_self] at ih
  refine Ev.congr (fun k => ?_) ih
  dsimp only
  rw [if_pos (by omega)]
theorem entsF_ok : ∀ (l : List S75) (acc : List UInt8), (∀ e ∈ l, e.f0 ≤ 4611686018427387903 ∧ e.f1.size ≤ 4096) → (∀ e ∈ l, 0 ≤ e.f0) → acc.length + 4112 * l.length ≤ 140737488355328 → entsF l acc = some (acc ++ (esB l).data.toList)
  | [], acc, _, _, _ => by rw [entsF, esB]; simp
  | e :: r, acc, h, h0, hb => by
    have he := h e (List.mem_cons_self ..)
    have hn := nB_le e.f0
    have ht := tB_le e.f1
    rw [List.length_cons] at hb
    rw [entsF, num_ok (h0 e (List.mem_cons_self ..)) he.1]
    simp only [Option.bind_some]
    rw [text_ok he.2]
    simp only [Option.bind_some]
    rw [if_pos ⟨by omega, by rw [ByteArray.size_append]; omega⟩, entsF_ok r _ (fun x hx => h x (List.mem_cons_of_mem _ hx)) (fun x hx => h0 x (List.mem_cons_of_mem _ hx)) (by rw [List.length_append, dlen, ByteArray.size_append]; omega), esB, app_list _ (esB r), List.append_assoc]
theorem rentsF_ok : ∀ (l : List S75) (acc : List UInt8), (∀ e ∈ l, e.f0 ≤ 4611686018427387903 ∧ e.f1.size ≤ 4096) → (∀ e ∈ l, 0 ≤ e.f0) → acc.length + 4112 * l.length ≤ 140737488355328 → Ev (fun k => rentsF k l acc) (acc ++ (esB l).data.toList)
  | [], acc, _, _, _ => by
    refine Ev.congr (f := fun _ => some (acc ++ (esB []).data.toList)) (fun k => ?_) (Ev.now _)
    rw [rentsF, esB]; simp
  | e :: r, acc, h, h0, hb => by
    have he := h e (List.mem_cons_self ..)
    have hn := nB_le e.f0
    have ht := tB_le e.f1
    rw [List.length_cons] at hb
    refine Ev.congr (f := fun k => (ferruleref01_Num.f k e.f0).bind fun n => (ferruleref01_Text.f k e.f1).bind fun t => if n.1.size + t.1.size ≤ 4611686018427387904 ∧ acc.length + (n.1 ++ t.1).size ≤ 140737488355328 then rentsF k r (acc ++ (n.1 ++ t.1).data.toList) else none) (fun k => by rw [rentsF]) ?_
    refine Ev.bind (rnum_ok (h0 e (List.mem_cons_self ..)) he.1) ?_
    refine Ev.bind (rtext_ok he.2) ?_
    have ih := rentsF_ok r (acc ++ (nB e.f0 ++ tB e.f1).data.toList) (fun x hx => h x (List.mem_cons_of_mem _ hx)) (fun x hx => h0 x (List.mem_cons_of_mem _ hx)) (by rw [List.length_append, dlen, ByteArray.size_append]; omega)
    rw [List.append_assoc, ← app_list] at ih
    rw [esB]
    refine Ev.congr (fun k => ?_) ih
    dsimp only
    rw [if_pos ⟨by omega, by rw [ByteArray.size_append]; omega⟩]
theorem addF_ok (acc : List UInt8) (s : ByteArray) (e : Int) (h : acc.length + s.size ≤ 140737488355328) : addF acc (some (s, e)) = some (acc ++ s.data.toList) := by
  unfold addF
  simp only [Option.bind_some]
  rw [if_pos h]
/-- A message's text. -/
def bodyA (kd f t tm i lt cm : Int) (ok : Bool) (es : List S75) (s : ByteArray) : ByteArray :=
  (((nsB [7, kd, f, t, tm, i, lt, cm] ++ nB (if ok = true then 1 else 0)) ++ nB (es.length : Int)) ++ esB es) ++ tB s
theorem bodyA_le {kd f t tm i lt cm : Int} {ok : Bool} {es : List S75} {s : ByteArray} (hl : es.length ≤ 8) (hs : s.size ≤ 4096) (he : ∀ e ∈ es, e.f0 ≤ 4611686018427387903 ∧ e.f1.size ≤ 4096) : (bodyA kd f t tm i lt cm ok es s).size ≤ 65536 := by
  have h1 := nsB_le [7, kd, f, t, tm, i, lt, cm]
  have h2 := nB_le (if ok = true then 1 else 0)
  have h3 := nB_le (es.length : Int)
  have h4 := esB_le es he
  have h5 := tB_le s
  unfold bodyA
  simp only [ByteArray.size_append, List.length_cons, List.length_nil] at *
  omega
theorem w_kind {x : Int} (h0 : 1 ≤ x) (h1 : x ≤ 7) : IntKind.u64.wrap x = x := by
  simp [IntKind.wrap, IntKind.signed, IntKind.bits]
  omega
theorem bytes_1 {kd f t tm i lt cm : Int} {ok : Bool} {es : List S75} {s : ByteArray} (h : mayB kd f t tm i lt cm ok es s = true) (g1 : 0 ≤ tm) (g2 : 0 ≤ i) (g3 : 0 ≤ lt) (g4 : 0 ≤ cm) (g5 : ∀ e ∈ es, 0 ≤ e.f0) :
    post_Bytes.f kd f t tm i lt cm ok es s = some (sealB (bodyA kd f t tm i lt cm ok es s), 0) := by
  obtain ⟨hk, hf, ht, e1, e2, e3, e4, hl, hs, he⟩ := may_facts h
  have hN : pack_Nums.f [kd, f, t, tm, i, lt, cm] = some (nsB [7, kd, f, t, tm, i, lt, cm], 0) := nums_ok [kd, f, t, tm, i, lt, cm] (by simp only [List.mem_cons, List.not_mem_nil, or_false]; rintro x (rfl | rfl | rfl | rfl | rfl | rfl | rfl) <;> omega) (by simp)
  have h1 := nsB_le [7, kd, f, t, tm, i, lt, cm]
  have h2 := nB_le (if ok = true then 1 else 0)
  have h3 := nB_le (es.length : Int)
  have h4 := esB_le es he
  have h5 := tB_le s
  have hb := bodyA_le (kd := kd) (f := f) (t := t) (tm := tm) (i := i) (lt := lt) (cm := cm) (ok := ok) hl hs he
  unfold post_Bytes.f post_May.f
  simp only [Option.bind_some]
  rw [if_pos h, w_kind hk.1 hk.2, hN, addF_ok _ _ _ (by simp only [List.length_cons, List.length_nil] at *; omega)]
  simp only [Option.bind_some, List.nil_append]
  rw [num_ok (by split <;> omega) (by split <;> omega), addF_ok _ _ _ (by rw [dlen]; simp only [List.length_cons, List.length_nil] at *; omega)]
  simp only [Option.bind_some]
  rw [show IntKind.u64.wrap (es.length : Int) = (es.length : Int) from by simp [IntKind.wrap, IntKind.signed, IntKind.bits]; omega, num_ok (by omega) (by omega), addF_ok _ _ _ (by simp only [List.length_append, dlen, List.length_cons, List.length_nil] at *; omega)]
  simp only [Option.bind_some]
  rw [entsF_ok es _ he g5 (by simp only [List.length_append, dlen, List.length_cons, List.length_nil] at *; omega)]
  simp only [Option.bind_some]
  rw [text_ok hs, addF_ok _ _ _ (by simp only [List.length_append, dlen, List.length_cons, List.length_nil] at *; omega)]
  simp only [Option.bind_some, mk_app, mk_self]
  exact put_f hb
theorem byte_nB {v : Int} (h0 : 0 ≤ v) (h1 : v < 64) : (nB v).data.toList = [UInt8.ofNat v.toNat] := by
  unfold nB numL
  rw [if_pos h1, num1_eq h0 h1]
  simp [strOfNums]
theorem bytes_2 {kd f t tm i lt cm : Int} {ok : Bool} {es : List S75} {s : ByteArray} (h : mayB kd f t tm i lt cm ok es s = true) (g1 : 0 ≤ tm) (g2 : 0 ≤ i) (g3 : 0 ≤ lt) (g4 : 0 ≤ cm) (g5 : ∀ e ∈ es, 0 ≤ e.f0) :
    Ev (fun k => ferruleref17_Bytes.f k kd f t tm i lt cm ok es s) (sealB (bodyA kd f t tm i lt cm ok es s), 0) := by
  obtain ⟨hk, hf, ht, e1, e2, e3, e4, hl, hs, he⟩ := may_facts h
  have hN : Ev (fun k => ref_Nums.f k [kd, f, t, tm, i, lt, cm]) (nsB [7, kd, f, t, tm, i, lt, cm], 0) := rnums_ok [kd, f, t, tm, i, lt, cm] (by simp only [List.mem_cons, List.not_mem_nil, or_false]; rintro x (rfl | rfl | rfl | rfl | rfl | rfl | rfl) <;> omega) (by simp)
  have h1 := nsB_le [7, kd, f, t, tm, i, lt, cm]
  have h2 := nB_le (if ok = true then 1 else 0)
  have h3 := nB_le (es.length : Int)
  have h4 := esB_le es he
  have h5 := tB_le s
  have hb := bodyA_le (kd := kd) (f := f) (t := t) (tm := tm) (i := i) (lt := lt) (cm := cm) (ok := ok) hl hs he
  unfold ferruleref17_Bytes.f
  refine Ev.bind ⟨es.length + 4, fun k hk => rmay_f kd f t tm i lt cm ok es s g4 (by omega) k hk⟩ ?_
  simp only [if_pos h, w_kind hk.1 hk.2]
  refine Ev.bind hN ?_
  have hE := rentsF_ok es ((nsB [7, kd, f, t, tm, i, lt, cm]).data.toList ++ [if ok = true then 1 else 0, UInt8.ofNat es.length]) he g5 (by simp only [List.length_append, dlen, List.length_cons, List.length_nil] at *; omega)
  have hx : ((nsB [7, kd, f, t, tm, i, lt, cm]).data.toList ++ [if ok = true then 1 else 0, UInt8.ofNat es.length]) = ((nsB [7, kd, f, t, tm, i, lt, cm]).data.toList ++ (nB (if ok = true then 1 else 0)).data.toList) ++ (nB (es.length : Int)).data.toList := by
    rw [byte_nB (v := (es.length : Int)) (by omega) (by omega), byte_nB (v := if ok = true then 1 else 0) (by split <;> omega) (by split <;> omega), List.append_assoc]
    cases ok <;> rfl
  have hz : (nsB [7, kd, f, t, tm, i, lt, cm]).size ≤ 140737488355320 ∧ es.length < 256 := ⟨by simp only [List.length_cons, List.length_nil] at *; omega, by omega⟩
  refine Ev.congr (f := fun k => (rentsF k es ((nsB [7, kd, f, t, tm, i, lt, cm]).data.toList ++ [if ok = true then 1 else 0, UInt8.ofNat es.length])).bind fun c => (ferruleref01_Text.f k s).bind fun t => if c.length + t.1.size ≤ 140737488355328 then ferruleref02_Put.f k ⟨(c ++ t.1.data.toList).toArray⟩ else none) (fun k => if_pos hz) ?_
  refine Ev.bind hE ?_
  refine Ev.bind (rtext_ok hs) ?_
  rw [hx]
  refine Ev.congr (f := fun k => ferruleref02_Put.f k (bodyA kd f t tm i lt cm ok es s)) (fun k => ?_) ⟨(bodyA kd f t tm i lt cm ok es s).size + 30, fun k hk => rput_f hb k hk⟩
  rw [if_pos (by simp only [List.length_append, dlen, List.length_cons, List.length_nil] at *; omega)]
  simp only [mk_app, mk_self]
  rfl
theorem bytes_no1 {kd f t tm i lt cm : Int} {ok : Bool} {es : List S75} {s : ByteArray} (h : ¬ mayB kd f t tm i lt cm ok es s = true) : post_Bytes.f kd f t tm i lt cm ok es s = some ((⟨#[]⟩ : ByteArray), 1) := by
  unfold post_Bytes.f post_May.f
  simp only [Option.bind_some]
  rw [if_neg h]
theorem bytes_no2 {kd f t tm i lt cm : Int} {ok : Bool} {es : List S75} {s : ByteArray} (g4 : 0 ≤ cm) (hl : es.length ≤ 4611686018427387904) (h : ¬ mayB kd f t tm i lt cm ok es s = true) : Ev (fun k => ferruleref17_Bytes.f k kd f t tm i lt cm ok es s) ((⟨#[]⟩ : ByteArray), 1) := by
  unfold ferruleref17_Bytes.f
  refine Ev.bind ⟨es.length + 4, fun k hk => rmay_f kd f t tm i lt cm ok es s g4 hl k hk⟩ ?_
  simp only [if_neg h]
  exact Ev.now _
end Go.Proofs.Ytfjhlcbpogihmaa.Pr
