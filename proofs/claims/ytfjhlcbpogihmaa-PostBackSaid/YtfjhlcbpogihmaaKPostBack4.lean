/- Several texts of one depth, laid together. Conditions: none. -/
import Derived.Test.YtfjhlcbpogihmaaKPostBack3
import Derived.Test.YtfjhlcbpogihmaaGPostBackPr57
import Derived.Test.YtfjhlcbpogihmaaKPostBack1
namespace Go.Proofs.Ytfjhlcbpogihmaa.Pr
open Go.RowKit Go.Proofs.YtfjhlcbpogihmaaW.PrintWords Go.Proofs.YtfjhlcbpogihmaaW.PrintLast Go.Proofs.YtfjhlcbpogihmaaW.PrintMore
set_option linter.unusedVariables false
set_option linter.unusedSimpArgs false
abbrev MB := Int × Int × Int × Int × Int × Int × Int × Bool × List S75 × ByteArray × Bool
abbrev MI := Int × Int × Int × Int × Int × Int × Int × Bool × List S75 × ByteArray × Int
/-- What the document's Take tells, where the program's inner take tells r. -/
def told (r : MB) : MI := if r.2.2.2.2.2.2.2.2.2.2 = true then (r.1, r.2.1, r.2.2.1, r.2.2.2.1, r.2.2.2.2.1, r.2.2.2.2.2.1, r.2.2.2.2.2.2.1, r.2.2.2.2.2.2.2.1, r.2.2.2.2.2.2.2.2.1, r.2.2.2.2.2.2.2.2.2.1, 0) else (0, 0, 0, 0, 0, 0, 0, false, [], ⟨#[]⟩, 3)
end Go.Proofs.Ytfjhlcbpogihmaa.Pr
namespace Go.Proofs.Ytfjhlcbpogihmaa.Pr
open Go.RowKit Go.Proofs.YtfjhlcbpogihmaaW.PrintWords Go.Proofs.YtfjhlcbpogihmaaW.PrintLast Go.Proofs.YtfjhlcbpogihmaaW.PrintMore
set_option linter.unusedVariables false
set_option linter.unusedSimpArgs false
def noMB : MB := (0, 0, 0, 0, 0, 0, 0, false, [], ⟨#[]⟩, false)
end Go.Proofs.Ytfjhlcbpogihmaa.Pr
namespace Go.Proofs.Ytfjhlcbpogihmaa.Pr
open Go.RowKit Go.Proofs.YtfjhlcbpogihmaaW.PrintWords Go.Proofs.YtfjhlcbpogihmaaW.PrintLast Go.Proofs.YtfjhlcbpogihmaaW.PrintMore
set_option linter.unusedVariables false
set_option linter.unusedSimpArgs false
theorem num_back {v : Int} (x : ByteArray) (h0 : 0 ≤ v) (h1 : v ≤ 4611686018427387903) : Ev (fun k => pack_TakeNum.f k (nB v ++ x)) (v, x, 0) := Ev.of (fun k => pack_TakeNum.mono _ k) (take_back x h0 (by omega))
theorem text_back {a : ByteArray} (x : ByteArray) (h : a.size ≤ 4096) (hx : x.size ≤ 4611686018427387903) : Ev (fun k => pack_TakeText.f k (tB a ++ x)) (a, x, 0) := by
  have e1 : (a ++ x).extract 0 a.size = a := ByteArray.extract_append_eq_left rfl
  have e2 : (a ++ x).extract a.size (a ++ x).size = x := by
    rw [ByteArray.size_append]
    exact ByteArray.extract_append_eq_right rfl rfl
  have hs : (a ++ x).size = a.size + x.size := ByteArray.size_append
  unfold tB
  rw [ba_assoc]
  unfold pack_TakeText.f
  refine Ev.bind (num_back (a ++ x) (by omega) (by omega)) ?_
  refine Ev.congr (f := fun _ => some (a, x, 0)) (fun k => ?_) (Ev.now _)
  dsimp only
  rw [if_pos rfl, if_neg (by omega), if_neg (by rw [wrap_in (by omega) (by omega)]; omega), if_pos (by omega), if_pos (by omega), Int.toNat_natCast, e1, e2]
theorem several_back : ∀ (l : List Int) (x : ByteArray) (out : List Int), (∀ v ∈ l, 0 ≤ v ∧ v ≤ 4611686018427387903) → out.length + l.length ≤ 1000 → Ev (fun k => severalF k l.length (nsB l ++ x) out) (out ++ l, x, 0)
  | [], x, out, _, _ => by
    refine Ev.congr (f := fun _ => some (out ++ [], x, 0)) (fun k => ?_) (Ev.now _)
    rw [List.length_nil, severalF, nsB, nil_ba, List.append_nil]
  | v :: l, x, out, h, hb => by
    have hv := h v (List.mem_cons_self ..)
    rw [List.length_cons] at hb
    have ih := several_back l x (out ++ [v]) (fun y hy => h y (List.mem_cons_of_mem _ hy)) (by rw [List.length_append, List.length_singleton]; omega)
    refine Ev.congr (f := fun k => (pack_TakeNum.f k (nB v ++ (nsB l ++ x))).bind fun b => if b.2.2 = 0 then (if out.length < 17592186044415 then severalF k l.length b.2.1 (out ++ [b.1]) else none) else some ([], (⟨#[]⟩ : ByteArray), b.2.2)) (fun k => by rw [List.length_cons, severalF, nsB, ba_assoc]) ?_
    refine Ev.bind (num_back _ hv.1 hv.2) ?_
    rw [List.append_assoc] at ih
    refine Ev.congr (fun k => ?_) ih
    dsimp only
    rw [if_pos rfl, if_pos (by omega)]
theorem nums_back (l : List Int) (x : ByteArray) (h : ∀ v ∈ l, 0 ≤ v ∧ v ≤ 4611686018427387903) (hl : l.length = 7) : Ev (fun k => pack_TakeNums.f k (nsB ((l.length : Int) :: l) ++ x) 7) (l, x, 0) := by
  rw [nsB, ba_assoc]
  unfold pack_TakeNums.f
  refine Ev.bind (num_back _ (by omega) (by omega)) ?_
  have ih := several_back l x [] h (by simp; omega)
  rw [List.nil_append] at ih
  refine Ev.congr (fun k => ?_) ih
  dsimp only
  rw [if_pos (by unfold inU; rw [decide_eq_true (by omega), decide_eq_true (by omega)]; rfl), if_pos rfl, if_neg (by decide), if_neg (by rw [hl]; decide), Int.toNat_natCast]
theorem loop_back (N k0 k1 k2 k3 k4 k5 k6 : Int) (ok : Bool) (sn s0 : ByteArray) (hs : sn.size ≤ 4096) : ∀ (l : List S75) (i : Nat) (es : List S75), (i : Int) + l.length = N → N ≤ 8 → es.length + l.length ≤ 100 → (∀ e ∈ l, e.f0 ≤ 4611686018427387903 ∧ e.f1.size ≤ 4096) → (∀ e ∈ l, 0 ≤ e.f0) →
    Ev (fun k => post_take.l0 k (esB l ++ tB sn) N (i : Int) k0 k1 k2 k3 k4 k5 k6 ok es s0) (k0, k1, k2, k3, k4, k5, k6, ok, es ++ l, sn, mayB k0 k1 k2 k3 k4 k5 k6 ok (es ++ l) sn)
  | [], i, es, hi, hN, hl, h, h0 => by
    rw [esB, nil_ba, List.append_nil]
    have ht := text_back (a := sn) ⟨#[]⟩ hs (by decide)
    rw [ba_nil] at ht
    rw [List.length_nil] at hi
    refine Ev.step (f := fun k => (pack_TakeText.f k (tB sn)).bind fun bt559 => (if bt559.2.2 = 0 then (if bt559.2.1.toList = ([] : List UInt8) then ((post_May.f k0 k1 k2 k3 k4 k5 k6 ok es bt559.1).bind fun t562 => (some (k0, k1, k2, k3, k4, k5, k6, ok, es, bt559.1, t562))) else (some (k0, k1, k2, k3, k4, k5, k6, ok, es, bt559.1, false))) else (some (k0, k1, k2, k3, k4, k5, k6, ok, es, bt559.1, false)))) (fun k => by rw [post_take.l0, if_neg (by omega)]) ?_
    refine Ev.bind ht ?_
    refine Ev.congr (f := fun _ => some (k0, k1, k2, k3, k4, k5, k6, ok, es, sn, mayB k0 k1 k2 k3 k4 k5 k6 ok es sn)) (fun k => ?_) (Ev.now _)
    dsimp only
    rw [if_pos rfl, if_pos (toList_nil.2 rfl)]
    rfl
  | e :: l, i, es, hi, hN, hl, h, h0 => by
    have he := h e (List.mem_cons_self ..)
    have he0 := h0 e (List.mem_cons_self ..)
    rw [List.length_cons] at hi hl
    have hwi : IntKind.u64.wrap ((i : Int) + 1) = ((i + 1 : Nat) : Int) := by simp [IntKind.wrap, IntKind.signed, IntKind.bits]; omega
    have ih := loop_back N k0 k1 k2 k3 k4 k5 k6 ok sn s0 hs l (i + 1) (es ++ [e]) (by omega) hN (by rw [List.length_append, List.length_singleton]; omega) (fun y hy => h y (List.mem_cons_of_mem _ hy)) (fun y hy => h0 y (List.mem_cons_of_mem _ hy))
    have h4 := esB_le l (fun y hy => h y (List.mem_cons_of_mem _ hy))
    have h5 := tB_le sn
    rw [esB, ba_assoc, ba_assoc]
    refine Ev.step (f := fun k => (pack_TakeNum.f k (nB e.f0 ++ (tB e.f1 ++ (esB l ++ tB sn)))).bind fun bt563 => ((pack_TakeText.f k bt563.2.1).bind fun bt566 => (if bt563.2.2 = 0 then (if bt566.2.2 = 0 then (if es.length < 5864062014805 then (post_take.l0 k bt566.2.1 N (IntKind.u64.wrap ((i : Int) + 1)) k0 k1 k2 k3 k4 k5 k6 ok (es ++ [(⟨bt563.1, bt566.1⟩ : S75)]) s0) else (none)) else (some (0, 0, 0, 0, 0, 0, 0, false, ([] : List (S75)), (⟨#[]⟩ : ByteArray), false))) else (some (0, 0, 0, 0, 0, 0, 0, false, ([] : List (S75)), (⟨#[]⟩ : ByteArray), false))))) (fun k => by rw [post_take.l0, if_pos (by omega)]) ?_
    refine Ev.bind (num_back _ he0 he.1) ?_
    refine Ev.bind (text_back _ he.2 (by rw [ByteArray.size_append]; omega)) ?_
    rw [List.append_assoc] at ih
    refine Ev.congr (fun k => ?_) ih
    dsimp only
    rw [if_pos rfl, if_pos rfl, if_pos (by omega), hwi]
theorem body_back {kd f t tm i lt cm : Int} {ok : Bool} {es : List S75} {s : ByteArray} (h : mayB kd f t tm i lt cm ok es s = true) (g1 : 0 ≤ tm) (g2 : 0 ≤ i) (g3 : 0 ≤ lt) (g4 : 0 ≤ cm) (g5 : ∀ e ∈ es, 0 ≤ e.f0) :
    Ev (fun k => post_take.f k (bodyA kd f t tm i lt cm ok es s)) (kd, f, t, tm, i, lt, cm, ok, es, s, true) := by
  obtain ⟨hk, hf, ht, e1, e2, e3, e4, hl, hs, he⟩ := may_facts h
  have hw : wrap64 kd = kd := by simp [wrap64]; omega
  have hok : (((if ok = true then 1 else 0 : Int)) == 1) = ok := by cases ok <;> rfl
  have ho0 : 0 ≤ (if ok = true then 1 else 0 : Int) := by split <;> omega
  have ho1 : (if ok = true then 1 else 0 : Int) ≤ 1 := by split <;> omega
  have hN := nums_back [kd, f, t, tm, i, lt, cm] (nB (if ok = true then 1 else 0) ++ (nB (es.length : Int) ++ (esB es ++ tB s))) (by simp only [List.mem_cons, List.not_mem_nil, or_false]; rintro x (rfl | rfl | rfl | rfl | rfl | rfl | rfl) <;> omega) rfl
  have hL := loop_back (es.length : Int) kd f t tm i lt cm ok s ⟨#[]⟩ hs es 0 [] (by omega) (by omega) (by simp; omega) he g5
  rw [List.nil_append, h] at hL
  have e0 : bodyA kd f t tm i lt cm ok es s = nsB ((([kd, f, t, tm, i, lt, cm] : List Int).length : Int) :: [kd, f, t, tm, i, lt, cm]) ++ (nB (if ok = true then 1 else 0) ++ (nB (es.length : Int) ++ (esB es ++ tB s))) := by
    unfold bodyA
    rw [ba_assoc, ba_assoc, ba_assoc]
    rfl
  rw [e0]
  unfold post_take.f
  refine Ev.bind hN ?_
  refine Ev.congr (f := fun k => post_take.j0 k (nB (if ok = true then 1 else 0) ++ (nB (es.length : Int) ++ (esB es ++ tB s))) [kd, f, t, tm, i, lt, cm] false) (fun k => ?_) ?_
  · dsimp only
    rw [if_pos rfl, if_pos (show ((([kd, f, t, tm, i, lt, cm] : List Int).length : Nat) : Int) = 7 from rfl), if_pos (show (0 : Int) < ((([kd, f, t, tm, i, lt, cm] : List Int).length : Nat) : Int) by simp), decide_eq_false (show ¬ rd [kd, f, t, tm, i, lt, cm] 0 > 7 from by show ¬ kd > 7; omega)]
  refine Ev.step (f := fun k => (pack_TakeNum.f k (nB (if ok = true then 1 else 0) ++ (nB (es.length : Int) ++ (esB es ++ tB s)))).bind fun bt553 => (if bt553.2.2 = 0 then (post_take.j1 k bt553.2.1 bt553.1 (decide (bt553.1 > 1)) (wrap64 kd) f t tm i lt cm false (⟨#[]⟩ : ByteArray)) else (post_take.j1 k bt553.2.1 bt553.1 true (wrap64 kd) f t tm i lt cm false (⟨#[]⟩ : ByteArray)))) (fun k => by
    rw [post_take.j0, if_neg (by decide)]
    rfl) ?_
  refine Ev.bind (num_back _ ho0 (by omega)) ?_
  simp only [if_true, decide_eq_false (show ¬ (if ok = true then 1 else 0 : Int) > 1 by omega), hw]
  refine Ev.step (f := fun k => (pack_TakeNum.f k (nB (es.length : Int) ++ (esB es ++ tB s))).bind fun bt556 => (if bt556.2.2 = 0 then (post_take.j2 k bt556.2.1 bt556.1 (decide (bt556.1 > 8)) kd f t tm i lt cm ok (⟨#[]⟩ : ByteArray)) else (post_take.j2 k bt556.2.1 bt556.1 true kd f t tm i lt cm ok (⟨#[]⟩ : ByteArray)))) (fun k => by rw [post_take.j1, if_neg (by decide), hok]) ?_
  refine Ev.bind (num_back _ (by omega) (by omega)) ?_
  simp only [if_true, decide_eq_false (show ¬ (es.length : Int) > 8 by omega)]
  exact Ev.step (f := fun k => post_take.l0 k (esB es ++ tB s) (es.length : Int) 0 kd f t tm i lt cm ok [] ⟨#[]⟩) (fun k => by rw [post_take.j2, if_neg (by decide)]) hL
end Go.Proofs.Ytfjhlcbpogihmaa.Pr
