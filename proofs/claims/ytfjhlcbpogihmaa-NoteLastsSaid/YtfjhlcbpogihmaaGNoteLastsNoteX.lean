/- Notes that were written and synced are there behind any crash: plain laws. Conditions: none. -/
import Derived.Test.YtfjhlcbpogihmaaGNoteLastsPr23
import Derived.Test.YtfjhlcbpogihmaaGNoteLastsNoteW
import Derived.Test.YtfjhlcbpogihmaaGNoteLastsNoteP
import Derived.Test.YtfjhlcbpogihmaaKNoteLasts5
namespace Go.Proofs.Ytfjhlcbpogihmaa.Pr
open Go.RowKit Go.Proofs.YtfjhlcbpogihmaaW.PrintWords Go.Proofs.YtfjhlcbpogihmaaW.PrintLast Go.Proofs.YtfjhlcbpogihmaaW.PrintMore
set_option linter.unusedVariables false
set_option linter.unusedSimpArgs false
theorem okNote_all {ns : List S39} (h : ∀ n ∈ ns, okNote n) : ns.all okN = true := List.all_eq_true.2 fun n hn => by
  obtain ⟨h1, h2, _⟩ := h n hn
  have := (nm_facts h1).2.1
  rw [okN_iff]
  omega
theorem fold_1 {ns : List S39} (h : ∀ n ∈ ns, okNote n) (hl : ns.length ≤ 1000000) : note_Fold.f ns = some (foldN ns).tup := if_pos ⟨okNote_all h, by omega⟩
theorem fold_2 {ns : List S39} (h : ∀ n ∈ ns, okNote n) (hl : ns.length ≤ 1000000) : Ev (fun k => ferruleref04_Fold.f k ns) (foldN ns).tup := ⟨ns.length + 6001, fun k hk => rfold_f ns (by omega) (okNote_all h) k (by omega)⟩
theorem fold_es {ns : List S39} (h : ∀ n ∈ ns, okNote n) : (foldN ns).es.length ≤ 1024 := (okS_foldl ns nst0 okS_0 (okNote_all h)).l1
theorem joinN_part (ns : List S39) (m : Nat) : (joinN ns).extract 0 (joinN (ns.take m)).size = joinN (ns.take m) := by
  have e := joinN_app (ns.take m) (ns.drop m)
  rw [List.take_append_drop] at e
  rw [e]
  exact ByteArray.extract_append_eq_left rfl
theorem ext_ext (a : ByteArray) {n c : Nat} (h : n ≤ c) : (a.extract 0 c).extract 0 n = a.extract 0 n := by
  rw [ByteArray.extract_extract]
  congr 1
  omega
/-- What is recovered from a tape that holds a beginning of notes. -/
theorem recover_cut (ns : List S39) (c : Nat) (S R : ByteArray) (hok : ∀ n ∈ ns, okNote n) (hc : c ≤ (joinN ns).size) (hb : (joinN ns).size ≤ 262144) (hl : ns.length ≤ 1000000) (hSR : S ++ R = (joinN ns).extract 0 c) :
    ∃ S' R' : ByteArray, S' ++ R' = joinN (ns.take (wholeM ns c)) ∧ Ev (fun k => note_Recover.f k S R (-1) false) ((foldN (ns.take (wholeM ns c))).term, (foldN (ns.take (wholeM ns c))).vote, (foldN (ns.take (wholeM ns c))).base, (foldN (ns.take (wholeM ns c))).bt, (foldN (ns.take (wholeM ns c))).snap, (foldN (ns.take (wholeM ns c))).es, S', R', -1, false, 0) := by
  have hr := read_cut ns c hok hc (by omega) (by omega)
  have hsz : ((joinN ns).extract 0 c).size = c := by rw [ByteArray.size_extract]; omega
  have hw := wholeM_size ns c
  have hp := joinN_part ns (wholeM ns c)
  have hokm : ∀ n ∈ ns.take (wholeM ns c), okNote n := fun n hn => hok n (List.mem_of_mem_take hn)
  have hf := fold_1 hokm (by rw [List.length_take]; omega)
  generalize wholeM ns c = m at hr hw hp hokm hf ⊢
  have hss : S.size + R.size = c := by rw [← ByteArray.size_append, hSR, hsz]
  have ht : tape_Read.f S R (-1) false = some ((joinN ns).extract 0 c, 0) := by
    unfold tape_Read.f
    rw [if_neg (by decide), if_pos (by omega), hSR]
  by_cases hlt : (joinN (ns.take m)).size < c
  · refine ⟨joinN (ns.take m), ⟨#[]⟩, ByteArray.append_empty, ?_⟩
    have hi : tape_Install.f S R (-1) false (joinN (ns.take m)) = some (joinN (ns.take m), ⟨#[]⟩, -1, false, 0) := by
      unfold tape_Install.f
      rw [if_pos (by omega), if_neg (by decide), if_neg (by omega), if_neg (by decide), if_neg (by decide)]
    have hx : ((joinN ns).extract 0 c).extract 0 (((joinN (ns.take m)).size : Int)).toNat = joinN (ns.take m) := by rw [Int.toNat_natCast, ext_ext _ hw, hp]
    unfold note_Recover.f
    rw [ht]
    simp only [Option.bind_some, if_true]
    refine Ev.bind hr ?_
    refine Ev.congr (f := fun _ => some ((foldN (ns.take m)).term, (foldN (ns.take m)).vote, (foldN (ns.take m)).base, (foldN (ns.take m)).bt, (foldN (ns.take m)).snap, (foldN (ns.take m)).es, joinN (ns.take m), ⟨#[]⟩, -1, false, 0)) (fun k => ?_) (Ev.now _)
    dsimp only
    rw [hsz, if_pos (by omega), if_pos (by omega), if_pos (by omega), hx, hi]
    simp only [Option.bind_some, if_true]
    rw [hf]
    rfl
  · have hec : (joinN (ns.take m)).size = c := by omega
    refine ⟨S, R, by rw [hSR, ← hec, hp], ?_⟩
    unfold note_Recover.f
    rw [ht]
    simp only [Option.bind_some, if_true]
    refine Ev.bind hr ?_
    refine Ev.congr (f := fun _ => some ((foldN (ns.take m)).term, (foldN (ns.take m)).vote, (foldN (ns.take m)).base, (foldN (ns.take m)).bt, (foldN (ns.take m)).snap, (foldN (ns.take m)).es, S, R, -1, false, 0)) (fun k => ?_) (Ev.now _)
    dsimp only
    rw [hsz, if_neg (by omega), hf]
    rfl
theorem crash_f (S R : ByteArray) (keep : Int) (hs : S.size + R.size ≤ 262144) : ∃ q, q ≤ R.size ∧ ferruleref03_Crash.f S R (-1) false keep = some (S ++ R.extract 0 q, ⟨#[]⟩, -1, false) := by
  refine ⟨(mn (mx keep 0) (R.size : Int)).toNat, ?_, ?_⟩
  · unfold mn mx
    split <;> split <;> omega
  · unfold ferruleref03_Crash.f crashI
    rw [if_pos (by omega)]
theorem last_j1 (acc : List S39) (m : Nat) (hok : ∀ n ∈ acc, okNote n) (hl : acc.length ≤ 1000000) (hm : m ≤ acc.length) (s : NSt) (hs : s = foldN (acc.take m)) :
    Ev (fun k => ferrulelaw04_NoteLasts.j1 k true acc (acc.take m) false s.term s.vote s.base s.bt s.snap s.es) true := by
  have hlen : (acc.take m).length = m := by rw [List.length_take]; omega
  have hokm : ∀ n ∈ acc.take m, okNote n := fun n hn => hok n (List.mem_of_mem_take hn)
  refine Ev.step (fun k => by rw [ferrulelaw04_NoteLasts.j1]) ?_
  simp only [Bool.false_eq_true, if_false, hlen, Int.toNat_natCast, if_pos (show (0 : Int) ≤ (m : Int) by omega), if_pos (show (m : Int) ≤ (acc.length : Int) by omega)]
  refine Ev.bind (g := fun k => ferruleref04_Notes.f k (acc.take m) (acc.take m)) (a := true) ⟨(acc.take m).length + 1, fun k hk => notes_self _ (by omega) k (by omega)⟩ ?_
  refine Ev.bind (fold_2 hokm (by omega)) ?_
  have he := fold_es hokm
  rw [← hs] at he ⊢
  unfold NSt.tup
  dsimp only
  refine Ev.bind (g := fun k => ferruleref04_Same.f k s.term s.vote s.base s.bt s.snap s.es s.term s.vote s.base s.bt s.snap s.es) (a := true) ⟨s.es.length + 3, fun k hk => same_self _ _ _ _ _ _ (by omega) k (by omega)⟩ ?_
  exact Ev.now _
theorem joinN_len : ∀ ns : List S39, (∀ n ∈ ns, okNote n) → 5 * ns.length ≤ (joinN ns).size
  | [], _ => Nat.zero_le _
  | n :: r, h => by
    have := joinN_len r (fun x hx => h x (List.mem_cons_of_mem _ hx))
    have := sealB_pos (nA n) (nA_le (h n (List.mem_cons_self ..)))
    rw [joinN, ByteArray.size_append, List.length_cons]
    omega
theorem rdN_at (l : List S39) (i : Nat) (h : i < l.length) : rd_T39 l (i : Int) = l[i] := by simp [rd_T39, List.getD_eq_getElem?_getD, h]
/-- What holds of the tape and the notes on it. -/
structure LInv (acc : List S39) (sq : Nat) (S R : ByteArray) : Prop where
  ok : ∀ n ∈ acc, okNote n
  safe : S = joinN (acc.take sq)
  all : S ++ R = joinN acc
  sq : sq ≤ acc.length
  le : (joinN acc).size ≤ 262144
theorem LInv.len {acc : List S39} {sq : Nat} {S R : ByteArray} (h : LInv acc sq S R) : acc.length ≤ 1000000 := by
  have := joinN_len acc h.ok
  have := h.le
  omega
theorem LInv.sizes {acc : List S39} {sq : Nat} {S R : ByteArray} (h : LInv acc sq S R) : S.size + R.size = (joinN acc).size := by rw [← ByteArray.size_append, h.all]
theorem last_end (x0 : List S39) (a1 a2 x11 : Int) (acc : List S39) (sq : Nat) (S R : ByteArray) (h : LInv acc sq S R) (hx : ¬ x11 < (x0.length : Int)) :
    Ev (fun k => ferrulelaw04_NoteLasts.l0 k x0 a1 a2 true acc (sq : Int) x11 S R (-1) false) true := by
  have hsz := h.sizes
  have hle := h.le
  have hlen := h.len
  obtain ⟨q, hq, hcr⟩ := crash_f S R a2 (by omega)
  have hSR : (S ++ R.extract 0 q) ++ (⟨#[]⟩ : ByteArray) = (joinN acc).extract 0 (S.size + q) := by
    rw [← h.all, ByteArray.extract_append, show S.extract 0 (S.size + q) = S from ext_all (by omega), show 0 - S.size = 0 by omega, show S.size + q - S.size = q by omega]
    exact ByteArray.append_empty
  obtain ⟨S', R', h1, h2⟩ := recover_cut acc (S.size + q) (S ++ R.extract 0 q) ⟨#[]⟩ h.ok (by omega) h.le hlen hSR
  have hm := wholeM_le acc (S.size + q)
  have hg := wholeM_ge acc (S.size + q) sq h.sq (by rw [← h.safe]; omega)
  have hw := wholeM_size acc (S.size + q)
  generalize wholeM acc (S.size + q) = m at h1 h2 hm hg hw
  have hokm : ∀ n ∈ acc.take m, okNote n := fun n hn => h.ok n (List.mem_of_mem_take hn)
  have hml : (acc.take m).length = m := by rw [List.length_take]; omega
  have hr := read_all (acc.take m) hokm (by omega) (by omega)
  have hs2 : S'.size + R'.size ≤ 9223372036854775807 := by
    have e := congrArg ByteArray.size h1
    rw [ByteArray.size_append] at e
    omega
  refine Ev.step (fun k => by rw [ferrulelaw04_NoteLasts.l0, if_neg hx, hcr]) ?_
  simp only [Option.bind_some]
  refine Ev.bind h2 ?_
  simp only [if_true, if_pos hs2, h1]
  refine Ev.bind hr ?_
  simp only [hml, if_neg (show ¬ (m : Int) < (sq : Int) by omega), decide_eq_false (show ¬ (m : Int) > (acc.length : Int) by omega)]
  exact last_j1 acc m h.ok hlen hm _ rfl
theorem last_loop (x0 : List S39) (a1 a2 : Int) (hl : x0.length ≤ 4611686018427387904) (hq : ∀ y ∈ x0, 0 ≤ y.f1 ∧ 0 ≤ y.f2 ∧ 0 ≤ y.f3) : ∀ (d i : Nat) (acc : List S39) (sq : Nat) (S R : ByteArray), i + d = x0.length → LInv acc sq S R →
    Ev (fun k => ferrulelaw04_NoteLasts.l0 k x0 a1 a2 true acc (sq : Int) (i : Int) S R (-1) false) true
  | 0, i, acc, sq, S, R, hi, h => last_end x0 a1 a2 _ acc sq S R h (by omega)
  | d + 1, i, acc, sq, S, R, hi, h => by
    have hil : i < x0.length := by omega
    have hrd := rdN_at x0 i hil
    obtain ⟨g1, g2, g3⟩ := hq x0[i] (List.getElem_mem _)
    generalize x0[i] = n at hrd g1 g2 g3
    have hwi : wrap64 ((i : Int) + 1) = ((i + 1 : Nat) : Int) := by rw [wi6 (by omega) (by omega)]; omega
    have hsz := h.sizes
    have hle := h.le
    have hlen := h.len
    by_cases hm : nmayB n.f0 n.f1 n.f2 n.f3 n.f4 = true
    · have hn : okNote n := ⟨hm, g1, g2, g3⟩
      have hb : ∀ k, note_Bytes.f k n.f0 n.f1 n.f2 n.f3 n.f4 = some (sealB (nA n), 0) := fun k => nbytes_1 hm g1 g2 g3 k
      have hnA := nA_le hn
      have hss := sealB_size (nA n)
      have hsc := sizeI_cases ((nA n).size : Int)
      by_cases hbig : (S.size : Int) + R.size + (sealB (nA n)).size > 262144
      · have hw : ferruleref03_Write.f S R (-1) false (sealB (nA n)) = some (S, R, -1, false, 5) := by
          unfold ferruleref03_Write.f tape_Write.f
          rw [if_pos (by omega), if_neg (by decide), if_pos hbig]
        refine Ev.step (f := fun _ => some true) (fun k => ?_) (Ev.now _)
        rw [ferrulelaw04_NoteLasts.l0, if_pos (by omega), if_pos (by omega), hrd, hb]
        simp only [Option.bind_some, if_true, hw, if_neg (show ¬ (5 : Int) = 0 by decide)]
      · have hw : ferruleref03_Write.f S R (-1) false (sealB (nA n)) = some (S, R ++ sealB (nA n), -1, false, 0) := by
          unfold ferruleref03_Write.f tape_Write.f
          rw [if_pos (by omega), if_neg (by decide), if_neg hbig, if_neg (by decide), if_neg (by decide)]
        have hj : joinN (acc ++ [n]) = joinN acc ++ sealB (nA n) := by rw [joinN_app, joinN_one]
        have hok2 : ∀ x ∈ acc ++ [n], okNote x := fun x hx => by
          rcases List.mem_append.1 hx with hx | hx
          · exact h.ok x hx
          · rw [List.mem_singleton.1 hx]; exact hn
        have hle2 : (joinN (acc ++ [n])).size ≤ 262144 := by rw [hj, ByteArray.size_append]; omega
        have hall2 : S ++ (R ++ sealB (nA n)) = joinN (acc ++ [n]) := by rw [← ba_assoc, h.all, hj]
        have heta : (⟨n.f0, n.f1, n.f2, n.f3, n.f4⟩ : S39) = n := by cases n; rfl
        by_cases hsy : (i : Int) = a1
        · have hs : ferruleref03_Sync.f S (R ++ sealB (nA n)) (-1) false = some (S ++ (R ++ sealB (nA n)), ⟨#[]⟩, -1, false, 0) := by
            unfold ferruleref03_Sync.f tape_Sync.f
            rw [if_pos (by rw [ByteArray.size_append]; omega), if_neg (by decide), if_neg (by decide), if_neg (by decide)]
          have h2 : LInv (acc ++ [n]) (acc ++ [n]).length (S ++ (R ++ sealB (nA n))) ⟨#[]⟩ := ⟨hok2, by rw [List.take_length, hall2], by rw [hall2]; exact ByteArray.append_empty, Nat.le_refl _, hle2⟩
          refine Ev.step (fun k => ?_) (last_loop x0 a1 a2 hl hq d (i + 1) (acc ++ [n]) (acc ++ [n]).length (S ++ (R ++ sealB (nA n))) ⟨#[]⟩ (by omega) h2)
          rw [ferrulelaw04_NoteLasts.l0, if_pos (by omega), if_pos (by omega), hrd, hb]
          simp only [Option.bind_some, if_true, hw, if_pos (show acc.length < 2932031007402 by omega), heta, if_pos hsy, hs, hwi]
        · have h2 : LInv (acc ++ [n]) sq S (R ++ sealB (nA n)) := ⟨hok2, by rw [List.take_append_of_le_length h.sq]; exact h.safe, hall2, by rw [List.length_append]; have := h.sq; omega, hle2⟩
          refine Ev.step (fun k => ?_) (last_loop x0 a1 a2 hl hq d (i + 1) (acc ++ [n]) sq S (R ++ sealB (nA n)) (by omega) h2)
          rw [ferrulelaw04_NoteLasts.l0, if_pos (by omega), if_pos (by omega), hrd, hb]
          simp only [Option.bind_some, if_true, hw, if_pos (show acc.length < 2932031007402 by omega), heta, if_neg hsy, hwi]
    · refine Ev.step (fun k => ?_) (last_loop x0 a1 a2 hl hq d (i + 1) acc sq S R (by omega) h)
      rw [ferrulelaw04_NoteLasts.l0, if_pos (by omega), if_pos (by omega), hrd, nbytes_no1 hm k]
      simp only [Option.bind_some, if_neg (show ¬ (1 : Int) = 0 by decide), hwi]
theorem last_0 : LInv [] 0 ⟨#[]⟩ ⟨#[]⟩ := ⟨fun _ h => absurd h List.not_mem_nil, rfl, ByteArray.append_empty, Nat.le_refl _, Nat.zero_le _⟩
end Go.Proofs.Ytfjhlcbpogihmaa.Pr
