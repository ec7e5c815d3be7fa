/- What seal.All tells: plain texts. Conditions: none. -/
import Derived.Test.YtkkkpmobdaebgaaSealT
import Derived.Test.YtkkkpmobdaebgaaHandWhole2
namespace Go.Proofs.Ytkkkpmobdaebgaa.Pr
open Go.RowKit Go.Proofs.YtkkkpmobdaebgaaW.PrintWords Go.Proofs.YtkkkpmobdaebgaaW.PrintLast Go.Proofs.YtkkkpmobdaebgaaW.PrintMore
set_option linter.unusedVariables false
set_option linter.unusedSimpArgs false
/-- A sealed text. -/
def sealB (s : ByteArray) : ByteArray := headB s ++ tailB (sumI (headB s))
theorem sealB_size (s : ByteArray) : ((sealB s).size : Int) = sizeI (s.size : Int) + s.size + 4 := by
  unfold sealB
  rw [ByteArray.size_append]
  have := headB_size s
  have := tailB_size (sumI (headB s))
  omega
/-- It is taken, whatever stands behind it. -/
theorem take_sealed (s more : ByteArray) (hs : s.size ≤ 65536) (hm : more.size ≤ 2305843009213693952) : seal_Take.f 20 (sealB s ++ more) = some (s, more, 0) := by
  have hz := sizeI_cases (s.size : Int)
  have hh := size_num (s.size : Int)
  obtain ⟨t, ht⟩ : ∃ t, tailB (sumI (headB s)) = t := ⟨_, rfl⟩
  have htz : t.size = 4 := by rw [← ht]; exact tailB_size _
  have e : sealB s ++ more = strOfNums (numL (s.size : Int)) ++ (s ++ (t ++ more)) := by
    unfold sealB headB
    rw [ba_assoc, ba_assoc]
    show _ ++ (s ++ (tailB (sumI (headB s)) ++ more)) = _
    rw [ht]
  rw [e, stake 20 _ _ s.size (take_back _ (by omega) (by omega)) hs (by rw [ByteArray.size_append, ByteArray.size_append, ByteArray.size_append]; omega)]
  have e1 : (s ++ (t ++ more)).extract 0 s.size = s := ByteArray.extract_append_eq_left rfl
  have e2 : (s ++ (t ++ more)).extract s.size (s.size + 4) = t := by
    have := ByteArray.extract_append_size_add (a := s) (b := t ++ more) (i := 0) (j := 4)
    rw [Nat.add_zero] at this
    rw [this, ← htz]
    exact ByteArray.extract_append_eq_left rfl
  have e3 : (s ++ (t ++ more)).extract (s.size + 4) (s ++ (t ++ more)).size = more := by
    have hsz : (s ++ (t ++ more)).size = s.size + (4 + more.size) := by rw [ByteArray.size_append, ByteArray.size_append, htz]
    rw [hsz, ByteArray.extract_append_size_add]
    exact ByteArray.extract_append_eq_right htz.symm (by rw [htz])
  rw [if_neg (by rw [ByteArray.size_append, ByteArray.size_append]; omega), e1, e2, e3]
  exact if_pos (show (tailB (sumI (headB s))).toList = t.toList by rw [ht])

theorem extract_two (a : ByteArray) (n : Nat) (h : n ≤ a.size) : a.extract 0 n ++ a.extract n a.size = a := by
  ext1
  simp only [ByteArray.data_append, ByteArray.data_extract]
  have h2 : n ≤ a.data.size := h
  show a.data.extract 0 n ++ a.data.extract n a.data.size = a.data
  rw [Array.extract_append_extract]
  simp
  right
  omega
/-- Whatever bytes there are: something is answered, and what is left is shorter. -/
theorem take_total (a : ByteArray) (h : a.size ≤ 4611686018427387904) : ∃ r, seal_Take.f 20 a = some r ∧ (r.2.2 = 0 → r.2.1.size < a.size) := by
  rcases take_full a with ⟨er, her, hf⟩ | ⟨m, v, hm1, hm8, hm, hf, hi, hv, hL, hshort⟩
  · refine ⟨((⟨#[]⟩ : ByteArray), (⟨#[]⟩ : ByteArray), er), ?_, fun h => absurd h her⟩
    unfold seal_Take.f
    rw [hf]
    simp only [Option.bind_some]
    rw [if_neg her]
  · by_cases hb : v > 65536
    · refine ⟨((⟨#[]⟩ : ByteArray), (⟨#[]⟩ : ByteArray), 4), ?_, fun h => absurd h (by decide)⟩
      unfold seal_Take.f
      rw [hf]
      simp only [Option.bind_some, if_true]
      rw [if_pos (by omega)]
    · unfold inU64 at hi
      obtain ⟨n, rfl⟩ : ∃ n : Nat, v = (n : Int) := ⟨v.toNat, by omega⟩
      have e := extract_two a m hm
      have hz : (a.extract m a.size).size = a.size - m := by rw [ByteArray.size_extract]; omega
      have hs := stake 20 (a.extract 0 m) (a.extract m a.size) n (by rw [e]; exact hf) (by omega) (by rw [e]; exact h)
      rw [e] at hs
      rw [hs]
      split
      · exact ⟨_, rfl, fun h => absurd h (by decide)⟩
      · split
        · refine ⟨_, rfl, fun _ => ?_⟩
          rw [ByteArray.size_extract]
          omega
        · exact ⟨_, rfl, fun h => absurd h (by decide)⟩
theorem allF_total : ∀ (m : Nat) (a : ByteArray), a.size < m → a.size ≤ 4611686018427387904 → ∃ L, allF 20 m a = some L ∧ L.length ≤ a.size
  | 0, a, h, _ => absurd h (by omega)
  | m + 1, a, h, hz => by
    obtain ⟨r, hr, hs⟩ := take_total a hz
    unfold allF
    rw [hr]
    simp only [Option.bind_some]
    by_cases he : r.2.2 = 0
    · have hlt := hs he
      obtain ⟨L, hL, hl⟩ := allF_total m r.2.1 (by omega) (by omega)
      rw [if_pos he, if_pos hlt, hL]
      exact ⟨r.1 :: L, rfl, by rw [List.length_cons]; omega⟩
    · rw [if_neg he]
      exact ⟨[], rfl, by simp⟩
theorem allF_more (k : Nat) : ∀ (m : Nat) (a : ByteArray) (L : List ByteArray), allF k m a = some L → allF k (m + 1) a = some L
  | 0, a, L, h => by simp [allF] at h
  | m + 1, a, L, h => by
    unfold allF at h ⊢
    obtain ⟨r, hr, h⟩ := Option.bind_eq_some_iff.mp h
    rw [hr]
    simp only [Option.bind_some]
    by_cases he : r.2.2 = 0
    · rw [if_pos he] at h ⊢
      by_cases hl : r.2.1.size < a.size
      · rw [if_pos hl] at h ⊢
        obtain ⟨L2, h2, rfl⟩ := Option.map_eq_some_iff.1 h
        rw [allF_more k m _ _ h2]
        rfl
      · rw [if_neg hl] at h; cases h
    · rw [if_neg he] at h ⊢
      exact h
theorem allF_up (k : Nat) (a : ByteArray) (L : List ByteArray) {m n : Nat} (hmn : m ≤ n) (h : allF k m a = some L) : allF k n a = some L := by
  obtain ⟨d, rfl⟩ := Nat.exists_eq_add_of_le hmn
  clear hmn
  induction d with
  | zero => exact h
  | succ d ih => exact allF_more k _ _ _ ih
theorem allF_cons (s more : ByteArray) (hs : s.size ≤ 65536) (hm : more.size ≤ 2305843009213693952) (m : Nat) (L : List ByteArray) (h : allF 20 m more = some L) : allF 20 (m + 1) (sealB s ++ more) = some (s :: L) := by
  have hz := sealB_size s
  have hc := sizeI_cases (s.size : Int)
  unfold allF
  rw [take_sealed s more hs hm]
  simp only [Option.bind_some, if_true]
  rw [if_pos (by rw [ByteArray.size_append]; omega), h]
  rfl
/-- Sealed texts one behind the other. -/
def joinB : List ByteArray → ByteArray
  | [] => ⟨#[]⟩
  | s :: r => sealB s ++ joinB r
theorem ba_none (a : ByteArray) : (⟨#[]⟩ : ByteArray) ++ a = a := by
  ext1
  simp
theorem joinB_snoc (s : ByteArray) : ∀ p, joinB (p ++ [s]) = joinB p ++ sealB s
  | [] => by simp only [List.nil_append, joinB]; rw [ba_nil, ba_none]
  | x :: p => by simp only [List.cons_append, joinB]; rw [joinB_snoc s p, ba_assoc]
theorem joinB_size : ∀ p : List ByteArray, (∀ s ∈ p, s.size ≤ 65536) → (joinB p).size ≤ p.length * 65548
  | [], _ => Nat.zero_le _
  | x :: p, h => by
    have ih := joinB_size p (fun s hs => h s (List.mem_cons_of_mem _ hs))
    have hx := h x List.mem_cons_self
    have hz := sealB_size x
    have hc := sizeI_cases (x.size : Int)
    simp only [joinB]
    rw [ByteArray.size_append, List.length_cons]
    omega
theorem allF_join (more : ByteArray) (m : Nat) (L : List ByteArray) (h : allF 20 m more = some L) : ∀ p : List ByteArray, (∀ s ∈ p, s.size ≤ 65536) → (joinB p).size + more.size ≤ 2305843009213693952 → allF 20 (m + p.length) (joinB p ++ more) = some (p ++ L)
  | [], _, _ => by simp only [joinB]; rw [ba_none]; exact h
  | x :: p, hp, hz => by
    have e : joinB (x :: p) ++ more = sealB x ++ (joinB p ++ more) := by simp only [joinB]; rw [ba_assoc]
    have hsz : (joinB (x :: p)).size = (sealB x).size + (joinB p).size := by simp only [joinB]; rw [ByteArray.size_append]
    have ih := allF_join more m L h p (fun s hs => hp s (List.mem_cons_of_mem _ hs)) (by omega)
    rw [e]
    exact allF_cons x _ (hp x List.mem_cons_self) (by rw [ByteArray.size_append]; omega) (m + p.length) _ ih
def wS (s : ByteArray) : Int := wrap64 (wrap64 (sizeI (IntKind.u64.wrap (s.size : Int)) + (s.size : Int)) + 4)
theorem wrap64_add (x y : Int) : wrap64 (wrap64 x + y) = wrap64 (x + y) := by
  simp only [wrap64]
  omega
theorem wrap64_add' (x y : Int) : wrap64 (x + wrap64 y) = wrap64 (x + y) := by
  rw [Int.add_comm, wrap64_add, Int.add_comm]
theorem wholeN_snoc' (L : List ByteArray) (s : ByteArray) : wholeN (L ++ [s]) = wrap64 (wholeN L + wS s) := wholeN_snoc L s
def sumW : List ByteArray → Int
  | [] => 0
  | s :: r => wS s + sumW r
theorem sumW_app (b : List ByteArray) : ∀ a, sumW (a ++ b) = sumW a + sumW b
  | [] => by simp [sumW]
  | s :: r => by simp only [List.cons_append, sumW]; rw [sumW_app b r]; omega
theorem foldW : ∀ (L : List ByteArray) (a : Int), L.foldl (fun n s => wrap64 (n + wS s)) (wrap64 a) = wrap64 (a + sumW L)
  | [], a => by simp [sumW]
  | s :: r, a => by
    simp only [List.foldl_cons, sumW]
    rw [wrap64_add, foldW r]
    congr 1
    omega
theorem wholeN_eq (L : List ByteArray) : wholeN L = wrap64 (sumW L) := by
  have := foldW L 0
  rw [Int.zero_add] at this
  rw [← this, show wrap64 0 = 0 from wrap64_in' (by decide) (by decide)]
  rfl
theorem wS_small (s : ByteArray) (h : s.size ≤ 65536) : wS s = ((sealB s).size : Int) := by
  have hz := sealB_size s
  have hc := sizeI_cases (s.size : Int)
  have e : IntKind.u64.wrap (s.size : Int) = (s.size : Int) := by simp [IntKind.wrap, IntKind.signed, IntKind.bits]; omega
  unfold wS
  rw [e, wrap64_in' (x := sizeI (s.size : Int) + _) (by omega) (by omega), wrap64_in' (by omega) (by omega)]
  omega
theorem sumW_join : ∀ p : List ByteArray, (∀ s ∈ p, s.size ≤ 65536) → sumW p = ((joinB p).size : Int)
  | [], _ => rfl
  | x :: p, h => by
    simp only [sumW, joinB]
    rw [sumW_join p (fun s hs => h s (List.mem_cons_of_mem _ hs)), wS_small x (h x List.mem_cons_self), ByteArray.size_append]
    omega
end Go.Proofs.Ytkkkpmobdaebgaa.Pr
