/- seal.Whole: what it computes, and that it does. Conditions: none. -/
import Derived.Test.YtkkkpmobdaebgaaHandAll
import Derived.Test.YtkkkpmobdaebgaaHandSize
namespace Go.Proofs.Ytkkkpmobdaebgaa.Pr
open Go.RowKit Go.Shelf Go.Proofs.YtkkkpmobdaebgaaW.PrintWords Go.Proofs.YtkkkpmobdaebgaaW.PrintLast Go.Proofs.YtkkkpmobdaebgaaW.PrintMore Go.Proofs.Ytkkkpmobdaebgaa.Hnd
attribute [local go_sem] Oper.semAt_some
set_option linter.unusedVariables false
set_option linter.unusedSimpArgs false
/-- seal.All: the text is boxed; the function value captures the box. -/
theorem all_in (n : Nat) (b : ByteArray) (w : World) :
    CallsIn Fence.wide n Try.prog 21 #[.string b] w fun e w' => e = .returned (.func (.func 29) #[] #[.pointer (some ⟨w.heap.size, 0, none⟩)]) ∧ w' = w.alloc (.cells #[.string b] 9) := by
  refine callsIn_of_wp Try.func21 rfl trivial ?_ rfl
  simp only [Try.ntmps21, List.size_toArray, List.length_cons, List.length_nil, Nat.reduceAdd, Nat.reduceSub, Array.replicate_succ, Array.replicate_zero, List.push_toArray, List.append_toArray, List.nil_append, List.cons_append]
  gi_wp2
  go_ret
  exact ⟨rfl, rfl⟩
/-- .. tells the sealed texts, and stops. -/
theorem all_stops (k m : Nat) (n : Nat) (hn : 1 ≤ n) (Bs : Nat) (b : ByteArray) (L : List ByteArray) (hL : allF k m b = some L) (w : World) (hBs : w.heap[Bs]? = some (.cells #[.string b] 9 (0, 0))) :
    SeqStopsK Fence.wide n Try.prog 29 #[.pointer (some ⟨Bs, 0, none⟩)] (fun x : ByteArray => #[.string x]) (fun _ _ => True) (fun ys => ys = L) (fun pre => pre <+: L) L.length w := fun l J Jx W hW hJ hJx hY h0 =>
  all1_in k m n hn l Bs b L hL J Jx W.heap.size hJ hY W (blk_below hBs hW) h0
/-- How many bytes sealed texts have. -/
def wholeN (L : List ByteArray) : Int := L.foldl (fun n s => wrap64 (n + wrap64 (wrap64 (sizeI (IntKind.u64.wrap (s.size : Int)) + (s.size : Int)) + 4))) 0
theorem wholeN_snoc (L : List ByteArray) (s : ByteArray) : wholeN (L ++ [s]) = wrap64 (wholeN L + wrap64 (wrap64 (sizeI (IntKind.u64.wrap (s.size : Int)) + (s.size : Int)) + 4)) := by
  unfold wholeN
  rw [List.foldl_append]
  rfl
def seal_Whole.f (k : Nat) (b : ByteArray) : Option Int := (allF k (b.size + 1) b).map wholeN
theorem allF_mono (k : Nat) : ∀ m b, LeO (allF k m b) (allF (k + 1) m b)
  | 0, _ => LeO.refl _
  | m + 1, b => LeO.bind (seal_Take.mono _ _) (fun r => LeO.ite (LeO.ite (LeO.map _ (allF_mono k m _)) (LeO.refl _)) (LeO.refl _))
theorem seal_Whole.mono : ∀ a0 k, LeO (seal_Whole.f k a0) (seal_Whole.f (k + 1) a0) := fun b k => LeO.map _ (allF_mono k _ _)
theorem inU64_wrapW (x : Int) : inU64 (IntKind.u64.wrap x) := by
  unfold inU64
  simp [IntKind.wrap, IntKind.signed, IntKind.bits]
  omega
set_option maxRecDepth 100000 in
set_option maxHeartbeats 4000000 in
theorem whole_in (k m : Nat) (n : Nat) (hn : 4 ≤ n) (b : ByteArray) (L : List ByteArray) (hL : allF k m b = some L) (w : World) :
    CallsIn Fence.wide n Try.prog 22 #[.string b] w fun e w' => e = .returned (.int .i64 (wholeN L)) ∧ Below w.heap.size w w' := by
  have h1 : 1 ≤ n := by omega
  have hf17 : Fence.wide.fn 17 := trivial
  refine callsIn_of_wp_marks Try.func22 rfl trivial ?_ rfl
  simp only [Try.ntmps22, List.size_toArray, List.length_cons, List.length_nil, Nat.reduceAdd, Nat.reduceSub, Array.replicate_succ, Array.replicate_zero, List.push_toArray, List.append_toArray, List.nil_append, List.cons_append]
  gi_wp2
  refine ⟨trivial, (all_in (n - 1) b _).mono ?_⟩
  rintro e w' ⟨rfl, rfl⟩
  gi_wp2
  have bV := World.alloc_heap_new w (.cells #[.int .i64 0] 3)
  have bV := blk_alloc bV (.cells #[.string b] 9)
  have bS := World.alloc_heap_new (w.alloc (.cells #[.int .i64 0] 3)) (.cells #[.string b] 9)
  simp only [World.size_alloc] at bS
  have hB0 : Below w.heap.size w ((w.alloc (.cells #[.int .i64 0] 3)).alloc (.cells #[.string b] 9)) := below_alloc (below_alloc (Below.refl _ _) _) _
  have hsz : ((w.alloc (.cells #[.int .i64 0] 3)).alloc (.cells #[.string b] 9)).heap.size = w.heap.size + 2 := by simp
  obtain ⟨W0, hW0⟩ : ∃ W0, ((w.alloc (.cells #[.int .i64 0] 3)).alloc (.cells #[.string b] 9)) = W0 := ⟨_, rfl⟩
  rw [hW0] at bV bS hB0 hsz ⊢
  refine wpIn_rangeFunc_ownH rfl h1 (gf := 29) (lb := #[.pointer (some ⟨w.heap.size + 1, 0, none⟩)]) rfl trivial (enters_of Try.func29 (by kernel_rfl) rfl)
    (all_stops k m (n - 1) (by omega) (w.heap.size + 1) b L hL W0 bS)
    (fun _ _ => trivial) (fun _ _ _ _ _ _ _ _ => trivial) (Below.refl _ _) (fun _ => rfl)
    (fun pre W => W.heap[w.heap.size]? = some (.cells #[.int .i64 (wholeN pre)] 3 (0, 0)) ∧ Below w.heap.size w W)
    (fun _ _ _ => False)
    (fun (s : List ByteArray) A B row hs hg hr => ⟨blk_grown hs.1 hg (fun e => by have := (hr _ e.symm).1; omega), hs.2.grown hg hs.2.size (fun k e => by have := (hr _ e).1; omega)⟩)
    (fun _ _ _ _ _ hs _ _ => hs)
    ⟨bV, hB0⟩
    (fun x a' W => a' = { tmps := #[.string b, undef, .int .i64 0, .pointer (some ⟨w.heap.size, 0, none⟩), .string x, .string b, .func (.func 29) #[] #[.pointer (some ⟨w.heap.size + 1, 0, none⟩)], .string x, undef, undef, undef, undef, undef, undef, undef, undef, undef, undef, undef], defers := [] })
    (fun x a' s A B row hs hg hr => hs) ?assign ?body ?done ?stop
  case assign =>
    rintro l pre x W K hI hK
    gi_wp2
    exact hK _ _ ((KeepsOthers.refl _).from _) trivial hI rfl
  case body =>
    rintro l pre x a' W hl ⟨r, hr⟩ ⟨i0, i1⟩ rfl hlt
    have hmx : Try.prog.follows .mixedOrders = true := by kernel_rfl
    have hd : 1 ≤ n - 1 - 1 := by omega
    have y0 := blk_cell i0 0
    have y1 := blk_frozen i0 0
    gi_wp2
    gi_region_with_o (gi_at_call 17; refine (CallsIn.inRound l ((callsIn_wide (n := _)).2 (pack_Size.calls0 _ (inU64_wrapW _) _))).mono ?_; rintro e w' ⟨rfl, rfl⟩)
    all_goals gi_wp2
    all_goals refine ⟨((KeepsOthers.setCell _ _ _).trans (KeepsOthers.drew _)).from _, trivial, ?_, below_drew1 (below_set i1 (Nat.le_refl _))⟩
    all_goals rw [wholeN_snoc]
    all_goals (refine blk_drew (blk_put i0 0 _ ?_); simp only [i64_w]; rfl)
  case done =>
    rintro D ys W hD hys ⟨i0, i1⟩ hK
    have z1 := blk_cell i0 0
    gi_wp2
    refine ⟨by simp, .inl ⟨_, _, rfl, run_takeDeferred hK, ?_⟩⟩
    exact ⟨_, results_tmp rfl _ _ _, rfl, i1.trans (belowK_b (w := w) (Nat.le_refl _) W D _ _ (by omega) hK rfl rfl)⟩
  case stop =>
    rintro D cc pre W _ _ h _
    exact h.elim
theorem seal_Whole.calls (k : Nat) (a0 : ByteArray) (r : Int) (w : World) (h : seal_Whole.f k a0 = some r) :
    Calls Try.prog 22 #[.string a0] w fun e w' => e = .returned (.int .i64 r) ∧ Below w.heap.size w w' := by
  unfold seal_Whole.f at h
  obtain ⟨L, hL, rfl⟩ := Option.map_eq_some_iff.1 h
  exact (callsIn_wide (n := 4)).1 (whole_in k _ 4 (Nat.le_refl _) a0 L hL w)
end Go.Proofs.Ytkkkpmobdaebgaa.Pr
