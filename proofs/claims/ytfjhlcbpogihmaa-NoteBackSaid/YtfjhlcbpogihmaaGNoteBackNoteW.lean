/- Notes are read back from their bytes, as far as they are whole: plain laws. Conditions: none. -/
import Derived.Test.YtfjhlcbpogihmaaKNoteBack8
namespace Go.Proofs.Ytfjhlcbpogihmaa.Pr
open Go.RowKit Go.Proofs.YtfjhlcbpogihmaaW.PrintWords Go.Proofs.YtfjhlcbpogihmaaW.PrintLast Go.Proofs.YtfjhlcbpogihmaaW.PrintMore
set_option linter.unusedVariables false
set_option linter.unusedSimpArgs false
theorem num_back {v : Int} (x : ByteArray) (h0 : 0 ≤ v) (h1 : v ≤ 4611686018427387903) : Ev (fun k => pack_TakeNum.f k (nB v ++ x)) (v, x, 0) := Ev.of (fun k => pack_TakeNum.mono _ k) (take_back x h0 (by omega))
theorem several_back : ∀ (l : List Int) (x : ByteArray) (out : List Int), (∀ v ∈ l, 0 ≤ v ∧ v ≤ 4611686018427387903) → out.length + l.length ≤ 1000 → Ev (fun k => severalF k l.length (nsB l ++ x) out) (out ++ l, x, 0)
  | [], x, out, _, _ => by
    refine Ev.congr (f := fun _ => some (out ++ [], x, 0)) (fun k => ?_) (Ev.now _)
    rw [List.length_nil, severalF, nsB, nil_ba, List.append_nil]
  | v :: l, x, out, h, hb => by
    have hv := h v (List.mem_cons_self ..)
    rw [List.length_cons] at hb
    have ih := several_back l x (out ++ [v]) (fun y hy => h y (List.mem_cons_of_mem _ hy)) (by rw [List.length_append, List.length_singleton]; omega)
    refine Ev.congr (f := fun k => (pack_TakeNum.f k (nB v ++ (nsB l ++ x))).bind fun b => if b.2.2 = 0 then (if out.length < 17592186044415 then severalF k l.length b.2.1 (out ++ [b.1]) else none) else some ([], (⟨#[]⟩ : ByteArray), b.2.2)) (fun k => by rw [List.length_cons, severalF, nsB, ba_assoc]) ?_
    refine Ev.bind (num_back _ hv.1 hv.2) ?_
    rw [List.append_assoc] at ih
    refine Ev.congr (fun k => ?_) ih
    dsimp only
    rw [if_pos rfl, if_pos (by omega)]
theorem nums_back3 (l : List Int) (x : ByteArray) (h : ∀ v ∈ l, 0 ≤ v ∧ v ≤ 4611686018427387903) (hl : l.length = 3) : Ev (fun k => pack_TakeNums.f k (nsB ((l.length : Int) :: l) ++ x) 3) (l, x, 0) := by
  rw [nsB, ba_assoc]
  unfold pack_TakeNums.f
  refine Ev.bind (num_back _ (by omega) (by omega)) ?_
  have ih := several_back l x [] h (by simp; omega)
  rw [List.nil_append] at ih
  refine Ev.congr (fun k => ?_) ih
  dsimp only
  rw [if_pos (by unfold inU; rw [decide_eq_true (by omega), decide_eq_true (by omega)]; rfl), if_pos rfl, if_neg (by decide), if_neg (by rw [hl]; decide), Int.toNat_natCast]
def nA (n : S39) : ByteArray := noteA n.f0 n.f1 n.f2 n.f3 n.f4
def okNote (n : S39) : Prop := nmayB n.f0 n.f1 n.f2 n.f3 n.f4 = true ∧ 0 ≤ n.f1 ∧ 0 ≤ n.f2 ∧ 0 ≤ n.f3
theorem nA_le {n : S39} (h : okNote n) : (nA n).size ≤ 65536 := noteA_le (nm_facts h.1).2.2.2.2
/-- A note is taken from its bytes as it was. -/
theorem note_back (n : S39) (h : okNote n) : Ev (fun k => note_take.f k (nA n)) (n.f0, n.f1, n.f2, n.f3, n.f4, true) := by
  obtain ⟨kd, i, t, v, d⟩ := n
  obtain ⟨hm, g1, g2, g3⟩ := h
  dsimp only at hm g1 g2 g3
  obtain ⟨hk, h1, h2, h3, h4⟩ := nm_facts hm
  have hs : nA ⟨kd, i, t, v, d⟩ = strOfNums [kd % 256] ++ (nsB [3, i, t, v] ++ d) := by
    show noteA kd i t v d = _
    unfold noteA
    rw [ba_assoc]
  have h1s : (strOfNums [kd % 256]).size = 1 := strOfNums_size _
  have hsz : (nA ⟨kd, i, t, v, d⟩).size = 1 + (nsB [3, i, t, v] ++ d).size := by rw [hs, ByteArray.size_append, h1s]
  have hx : (nA ⟨kd, i, t, v, d⟩).extract 1 (nA ⟨kd, i, t, v, d⟩).size = nsB [3, i, t, v] ++ d := by
    rw [hsz, hs]
    exact ByteArray.extract_append_eq_right h1s.symm (by rw [h1s])
  have hb : bt (nA ⟨kd, i, t, v, d⟩) 0 = kd := by
    rw [hs]
    have := bt_nums [kd % 256] (nsB [3, i, t, v] ++ d) 0 Nat.zero_lt_one (by show 0 ≤ kd % 256 ∧ kd % 256 ≤ 255; omega)
    have e : bt (strOfNums [kd % 256] ++ (nsB [3, i, t, v] ++ d)) 0 = kd % 256 := this
    rw [e]
    omega
  have hnil := toNil5 (a := nA ⟨kd, i, t, v, d⟩)
  have hs' : ¬ (nA ⟨kd, i, t, v, d⟩).toList = ([] : List UInt8) := fun c => by rw [c, decide_eq_false (by omega)] at hnil; cases hnil
  have hn := nums_back3 [i, t, v] d (fun x hx => by
    simp only [List.mem_cons, List.not_mem_nil, or_false] at hx
    rcases hx with rfl | rfl | rfl <;> omega) rfl
  have hn2 : Ev (fun k => pack_TakeNums.f k (nsB [3, i, t, v] ++ d) 3) ([i, t, v], d, 0) := hn
  refine Ev.congr (f := fun k => (pack_TakeNums.f k (nsB [3, i, t, v] ++ d) 3).bind fun bt193 => (if bt193.2.2 = 0 then (if (bt193.1.length : Int) = 3 then (if 0 < ((nA ⟨kd, i, t, v, d⟩).size : Int) then (if 0 < (bt193.1.length : Int) then (if 1 < (bt193.1.length : Int) then (if 2 < (bt193.1.length : Int) then ((note_may.f k (wrap64 kd) (rd bt193.1 0) (rd bt193.1 1) (rd bt193.1 2) bt193.2.1).bind fun t202 => (some (wrap64 kd, rd bt193.1 0, rd bt193.1 1, rd bt193.1 2, bt193.2.1, t202))) else (none)) else (none)) else (none)) else (none)) else (some (0, 0, 0, 0, (⟨#[]⟩ : ByteArray), false))) else (some (0, 0, 0, 0, (⟨#[]⟩ : ByteArray), false)))) (fun k => by unfold note_take.f; rw [if_neg hs', if_pos (by omega), hx, hb]) ?_
  refine Ev.bind hn2 ?_
  have hw : wrap64 kd = kd := wi6 (by omega) (by omega)
  refine Ev.congr (f := fun _ => some (kd, i, t, v, d, true)) (fun k => ?_) (Ev.now _)
  dsimp only
  rw [if_pos rfl, if_pos (show (([i, t, v].length : Nat) : Int) = 3 from rfl), if_pos (by omega), if_pos (show 0 < (([i, t, v].length : Nat) : Int) from by simp), if_pos (show 1 < (([i, t, v].length : Nat) : Int) from by simp), if_pos (show 2 < (([i, t, v].length : Nat) : Int) from by simp)]
  simp only [note_may.f, Option.bind_some, hw, show rd [i, t, v] 0 = i from rfl, show rd [i, t, v] 1 = t from rfl, show rd [i, t, v] 2 = v from rfl, hm]
def joinN : List S39 → ByteArray
  | [] => ⟨#[]⟩
  | n :: r => sealB (nA n) ++ joinN r
theorem joinN_app : ∀ a b : List S39, joinN (a ++ b) = joinN a ++ joinN b
  | [], b => by rw [List.nil_append, joinN, nil_ba]
  | n :: r, b => by rw [List.cons_append, joinN, joinN, joinN_app r b, ba_assoc]
/-- How many notes lie whole in so many bytes. -/
def wholeM : List S39 → Nat → Nat
  | [], _ => 0
  | n :: r, c => if c < (sealB (nA n)).size then 0 else wholeM r (c - (sealB (nA n)).size) + 1
theorem wholeM_le : ∀ (ns : List S39) (c : Nat), wholeM ns c ≤ ns.length
  | [], _ => Nat.le_refl _
  | n :: r, c => by
    unfold wholeM
    have := wholeM_le r (c - (sealB (nA n)).size)
    rw [List.length_cons]
    split <;> omega
theorem wholeM_ge : ∀ (ns : List S39) (c q : Nat), q ≤ ns.length → (joinN (ns.take q)).size ≤ c → q ≤ wholeM ns c
  | [], _, q, hq, _ => by rw [List.length_nil] at hq; omega
  | n :: r, c, 0, _, _ => Nat.zero_le _
  | n :: r, c, q + 1, hq, hc => by
    rw [List.take_succ_cons, joinN, ByteArray.size_append] at hc
    rw [List.length_cons] at hq
    unfold wholeM
    rw [if_neg (by omega)]
    have := wholeM_ge r (c - (sealB (nA n)).size) q (by omega) (by omega)
    omega
theorem wholeM_all (ns : List S39) : wholeM ns (joinN ns).size = ns.length :=
  Nat.le_antisymm (wholeM_le _ _) (wholeM_ge ns _ ns.length (Nat.le_refl _) (by rw [List.take_length]; exact Nat.le_refl _))
theorem ext_zero (a : ByteArray) : a.extract 0 0 = (⟨#[]⟩ : ByteArray) := by
  apply ByteArray.ext
  simp
theorem all_empty (m : Nat) (hm : 0 < m) (b : ByteArray) (hb : b.size = 0) : allF 20 m b = some [] := by
  obtain ⟨m, rfl⟩ : ∃ j, m = j + 1 := ⟨m - 1, by omega⟩
  obtain ⟨r, t1, _, t3⟩ := take_tot b (by omega) (b.size + 30) (Nat.le_refl _)
  unfold allF
  rw [t1]
  simp only [Option.bind_some]
  by_cases he : r.2.2 = 0
  · obtain ⟨hs, hz⟩ := t3 he
    have := sealB_pos r.1 hs
    omega
  · rw [if_neg he]
theorem all_cut : ∀ (ns : List S39) (c m : Nat), (∀ n ∈ ns, okNote n) → c ≤ (joinN ns).size → c < m → (joinN ns).size ≤ 281474976710656 → allF 20 m ((joinN ns).extract 0 c) = some ((ns.take (wholeM ns c)).map nA)
  | [], c, m, _, _, hm, _ => by
    rw [wholeM, List.take_zero, List.map_nil]
    exact all_empty m (by omega) _ (by have h0 : (joinN []).size = 0 := rfl; rw [ByteArray.size_extract]; omega)
  | n :: r, c, m, hok, hc, hm, hb => by
    have hn := hok n (List.mem_cons_self ..)
    have hsz := nA_le hn
    have hpos := sealB_pos (nA n) hsz
    rw [joinN, ByteArray.size_append] at hc hb
    obtain ⟨m, rfl⟩ : ∃ j, m = j + 1 := ⟨m - 1, by omega⟩
    rw [joinN, ByteArray.extract_append]
    unfold wholeM
    by_cases hlt : c < (sealB (nA n)).size
    · rw [if_pos hlt, List.take_zero, List.map_nil]
      have e2 : (joinN r).extract (0 - (sealB (nA n)).size) (c - (sealB (nA n)).size) = (⟨#[]⟩ : ByteArray) := by
        rw [show 0 - (sealB (nA n)).size = 0 by omega, show c - (sealB (nA n)).size = 0 by omega]
        exact ext_zero _
      rw [e2, show (sealB (nA n)).extract 0 c ++ (⟨#[]⟩ : ByteArray) = (sealB (nA n)).extract 0 c from ByteArray.append_empty]
      unfold allF
      rw [take_cut (nA n) hsz c hlt]
      rfl
    · rw [if_neg hlt, List.take_succ_cons, List.map_cons]
      have e1 : (sealB (nA n)).extract 0 c = sealB (nA n) := ext_all (by omega)
      rw [e1, show 0 - (sealB (nA n)).size = 0 by omega]
      have hxs : ((joinN r).extract 0 (c - (sealB (nA n)).size)).size ≤ 281474976710656 := by rw [ByteArray.size_extract]; omega
      have ih := all_cut r (c - (sealB (nA n)).size) m (fun x hx => hok x (List.mem_cons_of_mem _ hx)) (by omega) (by omega) (by omega)
      unfold allF
      rw [take_sealed (nA n) _ hsz hxs]
      show (if (0 : Int) = 0 then (if ((joinN r).extract 0 (c - (sealB (nA n)).size)).size < (sealB (nA n) ++ (joinN r).extract 0 (c - (sealB (nA n)).size)).size then (allF 20 m ((joinN r).extract 0 (c - (sealB (nA n)).size))).map (nA n :: ·) else none) else some []) = _
      rw [if_pos rfl, if_pos (by rw [ByteArray.size_append]; omega), ih]
      rfl
def tk (n : S39) : TK := (nA n, n.f0, n.f1, n.f2, n.f3, n.f4, true)
theorem takes_back : ∀ ns : List S39, (∀ n ∈ ns, okNote n) → Ev (fun k => takesF k (ns.map nA)) (ns.map tk)
  | [], _ => Ev.congr (f := fun _ => some []) (fun k => by rw [List.map_nil, takesF]) (Ev.now _)
  | n :: r, h => by
    have ih := takes_back r (fun x hx => h x (List.mem_cons_of_mem _ hx))
    refine Ev.congr (f := fun k => (note_take.f k (nA n)).bind fun t => (takesF k (r.map nA)).bind fun R => some ((nA n, t) :: R)) (fun k => by rw [List.map_cons, takesF]; cases note_take.f k (nA n) <;> simp only [Option.bind_none, Option.bind_some]; cases takesF k (r.map nA) <;> rfl) ?_
    exact Ev.bind (note_back n (h n (List.mem_cons_self ..))) (Ev.bind ih (Ev.now _))
theorem psum_join (ns : List S39) (h : ∀ n ∈ ns, okNote n) (hb : (joinN ns).size ≤ 281474976710656) : psum (ns.map tk) = ((joinN ns).size : Int) := by
  have go : ∀ (ns : List S39) (p : Nat), (∀ n ∈ ns, okNote n) → p + (joinN ns).size ≤ 281474976710656 → (ns.map tk).foldl (fun p t => wrap64 (p + wrap64 (wrap64 (sizeI (IntKind.u64.wrap (t.1.size : Int)) + (t.1.size : Int)) + 4))) (p : Int) = ((p + (joinN ns).size : Nat) : Int) := by
    intro ns
    induction ns with
    | nil => intro p _ _; rfl
    | cons n r ih =>
      intro p h hb
      rw [joinN, ByteArray.size_append] at hb
      rw [List.map_cons, List.foldl_cons]
      have e : wrap64 ((p : Int) + wrap64 (wrap64 (sizeI (IntKind.u64.wrap ((tk n).1.size : Int)) + ((tk n).1.size : Int)) + 4)) = ((p + (sealB (nA n)).size : Nat) : Int) := by
        have hw := wS_small (nA n) (nA_le (h n (List.mem_cons_self ..)))
        unfold wS at hw
        show wrap64 ((p : Int) + wrap64 (wrap64 (sizeI (IntKind.u64.wrap ((nA n).size : Int)) + ((nA n).size : Int)) + 4)) = _
        rw [hw, wi6 (by omega) (by omega)]
        omega
      rw [e, ih (p + (sealB (nA n)).size) (fun x hx => h x (List.mem_cons_of_mem _ hx)) (by omega), joinN, ByteArray.size_append]
      omega
  have := go ns 0 h (by omega)
  rw [Nat.zero_add] at this
  exact this
/-- What note.Read tells of the first bytes of notes: those that are whole there. -/
theorem read_cut (ns : List S39) (c : Nat) (hok : ∀ n ∈ ns, okNote n) (hc : c ≤ (joinN ns).size) (hb : (joinN ns).size ≤ 281474976710656) (hl : ns.length < 2932031007402) :
    Ev (fun k => note_Read.f k ((joinN ns).extract 0 c)) (ns.take (wholeM ns c), ((joinN (ns.take (wholeM ns c))).size : Int)) := by
  have hsz : ((joinN ns).extract 0 c).size = c := by rw [ByteArray.size_extract]; omega
  have h1 := all_cut ns c (((joinN ns).extract 0 c).size + 1) hok hc (by omega) hb
  generalize wholeM ns c = m at h1 ⊢
  have hokm : ∀ n ∈ ns.take m, okNote n := fun n hn => hok n (List.mem_of_mem_take hn)
  have hbm : (joinN (ns.take m)).size ≤ (joinN ns).size := by
    have e := congrArg ByteArray.size (joinN_app (ns.take m) (ns.drop m))
    rw [List.take_append_drop, ByteArray.size_append] at e
    omega
  have h2 := takes_back (ns.take m) hokm
  have hall : ((ns.take m).map tk).takeWhile TK.ok = (ns.take m).map tk := takeWhile_all _ _ (fun t ht => by obtain ⟨n, _, rfl⟩ := List.mem_map.1 ht; rfl)
  have hnote : ((ns.take m).map tk).map TK.note = ns.take m := by
    rw [List.map_map]
    exact (List.map_congr_left (fun n _ => by cases n; rfl)).trans (List.map_id _)
  unfold note_Read.f
  refine Ev.bind (Ev.of (fun k => allF_mono k _ _) h1) (Ev.bind h2 ?_)
  rw [if_pos (by rw [List.length_map, List.length_take]; omega), hall, hnote, psum_join _ hokm (by omega)]
  exact Ev.now _
theorem read_all (ns : List S39) (hok : ∀ n ∈ ns, okNote n) (hb : (joinN ns).size ≤ 281474976710656) (hl : ns.length < 2932031007402) :
    Ev (fun k => note_Read.f k (joinN ns)) (ns, ((joinN ns).size : Int)) := by
  have h := read_cut ns (joinN ns).size hok (Nat.le_refl _) hb hl
  rw [wholeM_all, List.take_length, ext_all (Nat.le_refl _)] at h
  exact h
end Go.Proofs.Ytfjhlcbpogihmaa.Pr
