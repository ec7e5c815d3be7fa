/- The places of the deals of a coordinator: the function's map by its keys, whatever the deals. Conditions: the deals are readable; each transaction's numbers are of their kind. -/
import Derived.RangeFuncNested
import Derived.RangeFuncBound
import Derived.RangeFuncCalls
import Derived.RangeFuncLeaves
import Derived.Shelf.Abstract
import Derived.Shelf.RegionOpen
import Derived.WalkKit
import Derived.OwnWalkIn
import Derived.TacticsInMore
import Derived.LoopNIn
import Derived.LoopIn
import Derived.Test.YtdlkpejlkijgcaaPr0
import Derived.Test.YtdlkpejlkijgcaaHnd
import Derived.Test.YtdlkpejlkijgcaaMapI
namespace Go.Proofs.Ytdlkpejlkijgcaa.Pr
open Go.RowKit Go.Shelf Go.Proofs.YtdlkpejlkijgcaaW.PrintWords Go.Proofs.YtdlkpejlkijgcaaW.PrintLast Go.Proofs.YtdlkpejlkijgcaaW.PrintMore Go.Proofs.Ytdlkpejlkijgcaa.Hnd
attribute [local go_sem] Oper.semAt_some
set_option linter.unusedVariables false
set_option linter.unusedSimpArgs false

/-- A transaction's key in a map. -/
def enc34 (x : S34) : Value := .agg #[.int .u64 x.f0, .int .u64 x.f1]
def okTx (x : S34) : Prop := (Lit.int .u64 x.f0).wf = true ∧ (Lit.int .u64 x.f1).wf = true
theorem enc34_inj (x y : S34) (h : enc34 x = enc34 y) : x = y := by
  cases x
  cases y
  simp [enc34] at h
  simp [h]
instance : DecidableEq S34 := fun a b => if h : a.f0 = b.f0 ∧ a.f1 = b.f1 then .isTrue (by cases a; cases b; simp at h; simp [h]) else .isFalse (by intro e; subst e; simp at h)
theorem laidOut : laidOutB Try.prog = true := by kernel_rfl
theorem keyed34 : Go.Maps.Keyed Try.prog 34 := Go.Maps.Keyed.of_law (deep_law_laid laidOut (m := 3) (by decide) (of_decide_eq_true (by kernel_rfl)) (by kernel_rfl) (by kernel_rfl))
theorem key34 (x : S34) (h : okTx x) : ∃ kl, keyOf Try.prog 34 (enc34 x) = some kl := by
  obtain ⟨h0, h1⟩ := h
  have kt : Try.prog.keyType 34 = true := by kernel_rfl
  have c34 : Try.prog.cellsOf 34 = 2 := by kernel_rfl
  have c28 : Try.prog.cellsOf 28 = 1 := by kernel_rfl
  have fm : (enc34 x).formed Try.prog 34 = true := by
    unfold enc34
    simp [Value.formed, Try.underlying34, c34]
  have e1 : ∀ d n, (Lit.int .u64 n).wf = true → Try.prog.keyLits (d + 1) 28 [.int .u64 n] = some [.int .u64 n] := fun d n hn => by
    simp [Program.keyLits, Try.underlying28, hn]
  have e2 : ∀ d, ∃ ls, Try.prog.keyLits (d + 2) 34 [.int .u64 x.f0, .int .u64 x.f1] = some ls := fun d => by
    unfold Program.keyLits
    rw [Try.underlying34]
    simp [c34, c28, e1 d _ h0, e1 d _ h1]
  obtain ⟨d, hd⟩ : ∃ d, Try.prog.types.size + 1 = d + 2 := ⟨Try.prog.types.size - 1, by have : 0 < Try.prog.types.size := of_decide_eq_true (by kernel_rfl); omega⟩
  obtain ⟨ls, hl⟩ := e2 d
  unfold keyOf
  rw [Try.underlying34]
  simp only [kt, fm, Bool.and_self, if_true, hd]
  unfold enc34
  simp only [Value.cells]
  rw [hl]
  exact ⟨_, rfl⟩
abbrev Map54 := MapI Try.prog 34 3 enc34 okTx
theorem zero3 (w : World) : (zeroValue 3).run Try.prog w = .ok (.int .i64 0) w := by kernel_rfl
theorem look54 {w : World} {b n m : Nat} {S : S34 → Option Int} (h : Map54 w b n S m) (x : S34) (hx : okTx x) : (Instr.lookup 54 (.map (some b)) (.agg #[.int .u64 x.f0, .int .u64 x.f1]) true).run Try.prog w = .ok (.tuple #[.int .i64 ((S x).getD 0), .bool (S x).isSome]) w := by
  obtain ⟨kl, hk⟩ := key34 x hx
  exact MapI.look h keyed34 Try.underlying54 Try.underlying3 (zero3 w) hx hk

/-! ### the indices from behind -/
def downL (N k : Nat) : List Nat := (List.range k).map (fun j => N - 1 - j)
theorem downL_succ (N k : Nat) : downL N (k + 1) = downL N k ++ [N - 1 - k] := by simp [downL, List.range_succ]

/-- What a round keeps: what lay below n₀, and the box of the slice. -/
def KpB (n₀ Bs : Nat) (A B : World) : Prop := Below n₀ A B ∧ ∀ o, A.heap[Bs]? = some o → B.heap[Bs]? = some o
theorem kpB_refl (n₀ Bs : Nat) (A : World) : KpB n₀ Bs A A := ⟨Below.refl _ _, fun _ h => h⟩
theorem kpB_t {n₀ Bs : Nat} {A B C : World} (h : KpB n₀ Bs A B) (k : KpB n₀ Bs B C) : KpB n₀ Bs A C := ⟨h.1.trans k.1, fun o ho => k.2 o (h.2 o ho)⟩

/-- Deal x's cells stand at place j. -/
def ElAt (W : World) (ad : Addr) (j : Nat) (x : S42) (a2 : Option Addr) (c2 : Nat) : Prop :=
  W.cell? (ad.add (j * 4)) = some (.int .u64 x.f0.f0) ∧ W.cell? ⟨(ad.add (j * 4)).block, (ad.add (j * 4)).off + 1, none⟩ = some (.int .u64 x.f0.f1) ∧
  W.cell? ⟨(ad.add (j * 4)).block, (ad.add (j * 4)).off + 2, none⟩ = some (.slice a2 x.f1.length c2) ∧ W.cell? ⟨(ad.add (j * 4)).block, (ad.add (j * 4)).off + 3, none⟩ = some (.int .i64 x.f2)
theorem ElAt.keep {n₀ : Nat} {W W' : World} {ad : Addr} {j : Nat} {x : S42} {a2 : Option Addr} {c2 : Nat} (h : ElAt W ad j x a2 c2) (hb : ad.block < n₀) (hk : Below n₀ W W') : ElAt W' ad j x a2 c2 := by
  have hb : (ad.add (j * 4)).block < n₀ := by unfold Addr.add; split <;> exact hb
  exact ⟨(hk.cell (p := ad.add (j * 4)) hb).trans h.1, (hk.cell (p := ⟨(ad.add (j * 4)).block, (ad.add (j * 4)).off + 1, none⟩) hb).trans h.2.1,
   (hk.cell (p := ⟨(ad.add (j * 4)).block, (ad.add (j * 4)).off + 2, none⟩) hb).trans h.2.2.1, (hk.cell (p := ⟨(ad.add (j * 4)).block, (ad.add (j * 4)).off + 3, none⟩) hb).trans h.2.2.2⟩
/-- What a round is handed: the index; the deal. -/
def encD (xs : List S42) (fa : Nat → Option Addr) (fc : Nat → Nat) (j : Nat) : Array Value :=
  #[.int .i64 (j : Int), .agg #[.int .u64 (rd_T42 xs (j : Int)).f0.f0, .int .u64 (rd_T42 xs (j : Int)).f0.f1, .slice (fa j) (rd_T42 xs (j : Int)).f1.length (fc j), .int .i64 (rd_T42 xs (j : Int)).f2]]

set_option maxRecDepth 100000 in
set_option maxHeartbeats 2000000 in
/-- slices.Backward's closure, for every loop body that keeps what lay below n₀ and the slice's box. -/
theorem bw1_in (F : Fence) (n : Nat) (h34 : F.fn 34) (hro : F.round = none) (hn : 1 ≤ n) (l Bs n₀ c : Nat) (A : Option Addr) (xs : List S42) (fa : Nat → Option Addr) (fc : Nat → Nat) (hmax : xs.length ≤ 9223372036854775807)
    (J Jx : List { j : Nat // j < xs.length } → World → Prop)
    (hY : ∀ pre x W, J pre W → pre.length < xs.length → YieldAt F (n - 1) Try.prog l (encD xs fa fc x.1) W fun e W' =>
      (e = .returned (.bool true) ∧ J (pre ++ [x]) W' ∧ KpB n₀ Bs W W') ∨ (e = .returned (.bool false) ∧ Jx (pre ++ [x]) W'))
    (W : World) (hBs : W.heap[Bs]? = some (.cells #[.slice A xs.length c] 24 (0, 0))) (hel : ∀ j, j < xs.length → ∃ ad, A = some ad ∧ ad.block < n₀ ∧ ElAt W ad j (rd_T42 xs (j : Int)) (fa j) (fc j)) (hJ0 : J [] W) :
    CallsIn F n Try.prog 34 #[.func (.yield l) #[] #[], .pointer (some ⟨Bs, 0, none⟩)] W fun e W' => (∃ v, e = .returned v) ∧
      ((∃ ys, ys.map (·.1) = downL xs.length xs.length ∧ J ys W') ∨ (∃ pre, Jx pre W')) := by
  have z0 := blk_cell hBs 0
  refine callsIn_of_wp Try.func34 rfl h34 ?_ hro
  simp only [Try.ntmps34, List.size_toArray, List.length_cons, List.length_nil, Nat.reduceAdd, Nat.reduceSub, Array.replicate_succ, Array.replicate_zero, List.push_toArray, List.append_toArray, List.nil_append, List.cons_append]
  gi_wp2
  gi_loopw [3] (fun i wr => ∃ pre : List { j : Nat // j < xs.length }, pre.length ≤ xs.length ∧ pre.map (·.1) = downL xs.length pre.length ∧ i = .int .i64 ((xs.length : Int) - 1 - (pre.length : Int)) ∧ J pre wr ∧ KpB n₀ Bs W wr)
    (fun i _ => ((intOf i) + 1).toNat)
  case atStart => exact ⟨[], Nat.zero_le _, rfl, by simp, hJ0, kpB_refl _ _ _⟩
  case round =>
    obtain ⟨pre, hle, hpre, rfl, hJs, hnx⟩ := hrel
    have z1 := blk_cell (hnx.2 _ hBs) 0
    by_cases hlt : pre.length < xs.length
    · obtain ⟨j, hj⟩ : ∃ j : Nat, j + pre.length + 1 = xs.length := ⟨xs.length - pre.length - 1, by omega⟩
      have ej : (xs.length : Int) - 1 - (pre.length : Int) = (j : Int) := by omega
      rw [ej]
      have hjl : j < xs.length := by omega
      have h0 : (0 : Int) ≤ (j : Int) := by omega
      have h1 : (j : Int) < (xs.length : Int) := by omega
      obtain ⟨ad, rfl, hb, hE⟩ := hel j hjl
      have hE' := hE.keep hb hnx.1
      obtain ⟨q0, q1, q2, q3⟩ := hE'
      obtain ⟨fn, tmps, assign, body, hy, hR⟩ := hY pre ⟨j, hjl⟩ wr hJs hlt
      dsimp only [encD] at hy
      gi_wp2
      refine hR.mono ?_
      rintro e W3 (⟨rfl, hJ3, hk3⟩ | ⟨rfl, hJx3⟩)
      · gi_wp2
        go_roundw
        case rel =>
          refine ⟨pre ++ [⟨j, hjl⟩], (by rw [List.length_append, List.length_singleton]; omega), ?_, ?_, hJ3, kpB_t hnx hk3⟩
          · rw [List.map_append, hpre, List.length_append, List.length_singleton, downL_succ]
            simp
            omega
          · simp
            try omega
        case measure =>
          simp [intOf]
          try omega
      · gi_wp2
        refine bodyPost_ret (results_none rfl _ _ _) rfl ?_
        exact ⟨⟨_, rfl⟩, .inr ⟨_, hJx3⟩⟩
    · have e1 : (xs.length : Int) - 1 - (pre.length : Int) = -1 := by omega
      rw [e1]
      clear e1
      gi_wp2
      go_end0
      exact ⟨⟨_, rfl⟩, .inl ⟨pre, by rw [hpre, show pre.length = xs.length by omega], hJs⟩⟩

set_option maxHeartbeats 1000000 in
/-- slices.Backward: the slice is boxed; the function value captures the box. -/
theorem bw_in (F : Fence) (n : Nat) (h32 : F.fn 32) (hro : F.round = none) (a : Option Addr) (len cap : Nat) (w : World) :
    CallsIn F n Try.prog 32 #[.slice a len cap] w fun e w' => e = .returned (.func (.func 34) #[] #[.pointer (some ⟨w.heap.size, 0, none⟩)]) ∧ w' = w.alloc (.cells #[.slice a len cap] 24) := by
  refine callsIn_of_wp Try.func32 rfl h32 ?_ hro
  simp only [Try.ntmps32, List.size_toArray, List.length_cons, List.length_nil, Nat.reduceAdd, Nat.reduceSub, Array.replicate_succ, Array.replicate_zero, List.push_toArray, List.append_toArray, List.nil_append, List.cons_append]
  gi_wp2
  go_ret
  exact ⟨rfl, rfl⟩

/-- The deals' cells, and what a round is handed of them. -/
theorem elems_of {w : World} {A : Option Addr} {xs : List S42} (h : Kd.C k42 w A xs.length xs) :
    ∃ (fa : Nat → Option Addr) (fc : Nat → Nat), ∀ j, j < xs.length → ∃ ad, A = some ad ∧ ad.block < w.heap.size ∧ ElAt w ad j (rd_T42 xs (j : Int)) (fa j) (fc j) := by
  have h1 : ∀ j : Nat, ∃ p : Option Addr × Nat, j < xs.length → ∃ ad, A = some ad ∧ ad.block < w.heap.size ∧ ElAt w ad j (rd_T42 xs (j : Int)) p.1 p.2 := fun j => by
    by_cases hj : j < xs.length
    · obtain ⟨ad, A2, c2, rfl, q0, q1, q2, q3, _, _⟩ := at_T42 h (j : Int) (by omega) (by omega)
      refine ⟨(A2, c2), fun _ => ⟨ad, rfl, ?_, q0, q1, q2, q3⟩⟩
      have := World.block_lt_of_cell? w _ q0
      unfold Addr.add at this
      split at this <;> exact this
    · exact ⟨(none, 0), fun h => absurd h hj⟩
  obtain ⟨p, hp⟩ := Classical.axiomOfChoice h1
  exact ⟨fun j => (p j).1, fun j => (p j).2, hp⟩

/-- slices.Backward hands back a value that stops. -/
theorem bw_stops (F : Fence) (n : Nat) (h34 : F.fn 34) (hro : F.round = none) (hn : 1 ≤ n) (Bs n₀ c : Nat) (A : Option Addr) (xs : List S42) (fa : Nat → Option Addr) (fc : Nat → Nat) (hmax : xs.length ≤ 9223372036854775807) (w : World) (hn₀ : n₀ ≤ w.heap.size)
    (hBs : w.heap[Bs]? = some (.cells #[.slice A xs.length c] 24 (0, 0))) (hel : ∀ j, j < xs.length → ∃ ad, A = some ad ∧ ad.block < n₀ ∧ ElAt w ad j (rd_T42 xs (j : Int)) (fa j) (fc j)) :
    SeqStopsK F n Try.prog 34 #[.pointer (some ⟨Bs, 0, none⟩)] (fun x : { j : Nat // j < xs.length } => encD xs fa fc x.1) (KpB n₀ Bs) (fun ys => ys.map (·.1) = downL xs.length xs.length) (fun _ => True) xs.length w := fun l J Jx W hW _ _ hY h0 => by
  refine (bw1_in F n h34 hro hn l Bs n₀ c A xs fa fc hmax J Jx hY W (blk_below hBs hW) (fun j hj => ?_) h0).mono ?_
  · obtain ⟨ad, e, hb, hE⟩ := hel j hj
    exact ⟨ad, e, hb, hE.keep hb (hW.mono hn₀)⟩
  · rintro e W' ⟨he, ⟨ys, h1, h2⟩ | ⟨pre, hj⟩⟩
    · exact ⟨he, .inl ⟨ys, h1, h2⟩⟩
    · exact ⟨he, .inr ⟨pre, trivial, hj⟩⟩

/-- What the map holds, and how many keys, when the deals at these places have been laid one behind another. -/
def plP (xs : List S42) (js : List Nat) : (S34 → Option Int) × Nat :=
  js.foldl (fun p (j : Nat) => (fun y => if y = (rd_T42 xs (j : Int)).f0 then some (j : Int) else p.1 y, if (p.1 (rd_T42 xs (j : Int)).f0).isSome then p.2 else p.2 + 1)) (fun _ => none, 0)
theorem plP_snoc (xs : List S42) (js : List Nat) (j : Nat) : plP xs (js ++ [j]) = (fun y => if y = (rd_T42 xs (j : Int)).f0 then some (j : Int) else (plP xs js).1 y, if ((plP xs js).1 (rd_T42 xs (j : Int)).f0).isSome then (plP xs js).2 else (plP xs js).2 + 1) := by
  unfold plP
  rw [List.foldl_append]
  rfl

set_option maxRecDepth 100000 in
set_option maxHeartbeats 4000000 in
theorem places_in (F : Fence) (n : Nat) (h22 : F.fn 22) (h32 : F.fn 32) (h34 : F.fn 34) (hro : F.round = none) (hn : 4 ≤ n) (A : Option Addr) (c : Nat) (xs : List S42) (w : World) (hC : Kd.C k42 w A xs.length xs) (hok : ∀ j : Nat, okTx (rd_T42 xs (j : Int)).f0) :
    CallsIn F n Try.prog 22 #[.agg #[.slice A xs.length c]] w fun e W' => e = .returned (.map (some (w.heap.size + 1))) ∧ Map54 W' (w.heap.size + 1) xs.length (plP xs (downL xs.length xs.length)).1 (plP xs (downL xs.length xs.length)).2 ∧ Below w.heap.size w W' := by
  have h1 : 1 ≤ n := by omega
  have hmax := Kd.C_max hC
  obtain ⟨fa, fc, hel⟩ := elems_of hC
  have hmm := @run_makeMap Try.prog
  refine callsIn_of_wp_marks Try.func22 rfl h22 ?_ hro
  simp only [Try.ntmps22, List.size_toArray, List.length_cons, List.length_nil, Nat.reduceAdd, Nat.reduceSub, Array.replicate_succ, Array.replicate_zero, List.push_toArray, List.append_toArray, List.nil_append, List.cons_append]
  gi_wp2_with (gi_at_call 32; refine (bw_in F (n - 1) h32 hro _ _ _ _).mono ?_; rintro e w' ⟨rfl, rfl⟩)
  have bM := MapI.made (P := Try.prog) (k := 34) (e := 3) (enc := enc34) (ok := okTx) (w.alloc (.cells #[.slice A xs.length c] 26))
  have bV := World.alloc_heap_new ((w.alloc (.cells #[.slice A xs.length c] 26)).alloc (.map #[] 0)) (.cells #[.map (some (w.heap.size + 1))] 54)
  have bS := World.alloc_heap_new (((w.alloc (.cells #[.slice A xs.length c] 26)).alloc (.map #[] 0)).alloc (.cells #[.map (some (w.heap.size + 1))] 54)) (.cells #[.slice A xs.length c] 24)
  simp only [World.size_alloc] at bM bV bS
  have bM := MapI.alloc (MapI.alloc bM (.cells #[.map (some (w.heap.size + 1))] 54)) (.cells #[.slice A xs.length c] 24)
  have bV := blk_alloc bV (.cells #[.slice A xs.length c] 24)
  have hB0 : Below w.heap.size w ((((w.alloc (.cells #[.slice A xs.length c] 26)).alloc (.map #[] 0)).alloc (.cells #[.map (some (w.heap.size + 1))] 54)).alloc (.cells #[.slice A xs.length c] 24)) := below_alloc (below_alloc (below_alloc (below_alloc (Below.refl _ _) _) _) _) _
  have hsz : ((((w.alloc (.cells #[.slice A xs.length c] 26)).alloc (.map #[] 0)).alloc (.cells #[.map (some (w.heap.size + 1))] 54)).alloc (.cells #[.slice A xs.length c] 24)).heap.size = w.heap.size + 4 := by simp
  obtain ⟨W0, hW0⟩ : ∃ W0, ((((w.alloc (.cells #[.slice A xs.length c] 26)).alloc (.map #[] 0)).alloc (.cells #[.map (some (w.heap.size + 1))] 54)).alloc (.cells #[.slice A xs.length c] 24)) = W0 := ⟨_, rfl⟩
  rw [hW0] at bM bV bS hB0 hsz ⊢
  have hl3 : w.heap.size + 1 + 1 + 1 < W0.heap.size := by omega
  refine wpIn_rangeFunc_ownH hro h1 (gf := 34) (lb := #[.pointer (some ⟨w.heap.size + 1 + 1 + 1, 0, none⟩)]) rfl h34 (enters_of Try.func34 (by kernel_rfl) rfl)
    (bw_stops F (n - 1) h34 hro (by omega) (w.heap.size + 1 + 1 + 1) w.heap.size c A xs fa fc hmax W0 hB0.size bS (fun j hj => by
      obtain ⟨ad, e, hb, hE⟩ := hel j hj
      exact ⟨ad, e, hb, hE.keep hb hB0⟩))
    kpB_t (fun W l o o' hl h hc _ => ⟨belowK_b (w := W0) hB0.size W l o o' hl h hc ‹_›, fun q hq => (World.putObj_heap_other (by omega)).trans hq⟩) (Below.refl _ _) (fun _ => rfl)
    (fun pre W => (W0.heap.size ≤ W.heap.size ∧ W.heap[w.heap.size + 1 + 1]? = some (.cells #[.map (some (w.heap.size + 1))] 54 (0, 0)) ∧ Map54 W (w.heap.size + 1) pre.length (plP xs (pre.map (·.1))).1 (plP xs (pre.map (·.1))).2) ∧ Below w.heap.size w W)
    (fun _ _ _ => False)
    (fun (s : List { j : Nat // j < xs.length }) A B row hs hg hr => ⟨⟨Nat.le_trans hs.1.1 hg.size, blk_grown hs.1.2.1 hg (fun e => by have := (hr _ e.symm).1; omega), MapI.kept hs.1.2.2 hg (fun e => by have := (hr _ e.symm).1; omega)⟩, hs.2.grown hg hs.2.size (fun k e => by have := (hr _ e).1; omega)⟩)
    (fun _ _ _ _ _ hs _ _ => hs)
    ⟨⟨Nat.le_refl _, bV, bM⟩, hB0⟩
    (fun x a' W => ∃ Bx, W0.heap.size ≤ Bx ∧ W.heap[Bx]? = some (.cells #[.int .u64 (rd_T42 xs (x.1 : Int)).f0.f0, .int .u64 (rd_T42 xs (x.1 : Int)).f0.f1, .slice (fa x.1) (rd_T42 xs (x.1 : Int)).f1.length (fc x.1), .int .i64 (rd_T42 xs (x.1 : Int)).f2] 42 (0, 0)) ∧
      a' = { tmps := #[.agg #[.slice A xs.length c], .pointer (some ⟨w.heap.size, 0, none⟩), .map none, .pointer (some ⟨w.heap.size + 1 + 1, 0, none⟩), .int .i64 (x.1 : Int), .pointer (some ⟨Bx, 0, none⟩), .map (some (w.heap.size + 1)), .pointer (some ⟨w.heap.size, 0, none⟩), .slice A xs.length c, .func (.func 34) #[] #[.pointer (some ⟨w.heap.size + 1 + 1 + 1, 0, none⟩)], .int .i64 (x.1 : Int), .agg #[.int .u64 (rd_T42 xs (x.1 : Int)).f0.f0, .int .u64 (rd_T42 xs (x.1 : Int)).f0.f1, .slice (fa x.1) (rd_T42 xs (x.1 : Int)).f1.length (fc x.1), .int .i64 (rd_T42 xs (x.1 : Int)).f2], undef, undef, undef, undef, undef], defers := [] })
    (fun x a' s A B row hs hg hr => by
      obtain ⟨Bx, h1, h2, h3⟩ := hs
      exact ⟨Bx, h1, blk_grown h2 hg (fun e => by
        obtain ⟨_, o, ho, hc⟩ := hr _ e.symm
        rw [h2] at ho; cases ho; cases hc), h3⟩) ?assign ?body ?done ?stop
  case assign =>
    rintro l pre x W K ⟨⟨i0, i1, i2⟩, i3⟩ hK
    dsimp only [encD]
    gi_wp2
    exact hK _ _ ((KeepsOthers.alloc _ _).from _) ⟨(Below.refl _ W).alloc i3.size _, fun o ho => blk_alloc ho _⟩ ⟨⟨(by rw [World.size_alloc]; omega), blk_alloc i1 _, MapI.alloc i2 _⟩, i3.alloc i3.size _⟩ ⟨W.heap.size, i0, World.alloc_heap_new W _, rfl⟩
  case body =>
    rintro l pre x a' W hl ⟨r, hr⟩ ⟨⟨i0, i1, i2⟩, i3⟩ ⟨Bx, hBx, bX, rfl⟩ hlt
    have y0 := blk_cell bX 0
    have y1 := blk_cell bX 1
    have y2 := blk_cell i1 0
    obtain ⟨kl, hkl⟩ := key34 _ (hok x.1)
    have hxw : (Lit.int .i64 (x.1 : Int)).wf = true := by
      have := x.2
      have e1 : IntKind.min .i64 = -9223372036854775808 := by decide
      have e2 : IntKind.max .i64 = 9223372036854775807 := by decide
      simp only [Lit.wf, e1, e2, Bool.and_eq_true, decide_eq_true_eq]
      omega
    have hnm : pre.length < maxLen := by
      have e : maxLen = 9223372036854775807 := rfl
      omega
    gi_wp2_with (gi_at_mapUpdate; refine wpListIn_mapUpdate_I _ rfl _ _ _ 54 rfl 34 3 keyed34 (fun x y _ _ h => enc34_inj x y h) Try.underlying54 Try.underlying3 (w.heap.size + 1) pre.length rfl i2 hnm (rd_T42 xs (x.1 : Int)).f0 (hok x.1) kl rfl (x.1 : Int) hxw rfl hkl ?_; intro w1 hown1 hgrow1)
    have hM2 : Map54 w1 (w.heap.size + 1) (pre ++ [x]).length (plP xs ((pre ++ [x]).map (·.1))).1 (plP xs ((pre ++ [x]).map (·.1))).2 := by
      rw [List.map_append, List.length_append, show [x].map (·.1) = [x.1] from rfl, plP_snoc]
      exact hown1
    exact ⟨KeepsFrom.of_grownBy hgrow1 (fun j e => by cases e; omega), ⟨(Below.refl _ W).grown hgrow1 i3.size (fun k e => by cases e; omega), fun o ho => blk_grown ho hgrow1 (fun e => by have := Option.some.inj e; omega)⟩,
      ⟨⟨(by have := hgrow1.size; omega), blk_grown i1 hgrow1 (fun e => by have := Option.some.inj e; omega), hM2⟩, i3.grown hgrow1 i3.size (fun k e => by cases e; omega)⟩⟩
  case done =>
    rintro D ys W hD hys ⟨⟨i0, i1, i2⟩, i3⟩ hK
    have z1 := blk_cell i1 0
    gi_wp2
    refine ⟨by simp, .inl ⟨_, _, rfl, run_takeDeferred hK, ?_⟩⟩
    refine ⟨_, results_tmp rfl _ _ _, rfl, ?_, i3.trans (belowK_b (w := w) (Nat.le_refl _) W D _ _ (by omega) hK rfl rfl)⟩
    rw [hys] at i2
    have hyl : ys.length = xs.length := by
      have := congrArg List.length hys
      simpa [downL] using this
    rw [hyl] at i2
    exact i2.kept (grownBy_putObj' _ D _) (fun e => by cases e; omega)
  case stop =>
    rintro D cc pre W _ _ h _
    exact h.elim
/-- The places of a coordinator's deals. -/
theorem coord_places.calls (A : Option Addr) (c : Nat) (xs : List S42) (w : World) (hC : Kd.C k42 w A xs.length xs) (hok : ∀ j : Nat, okTx (rd_T42 xs (j : Int)).f0) :
    Calls Try.prog 22 #[.agg #[.slice A xs.length c]] w fun e W' => e = .returned (.map (some (w.heap.size + 1))) ∧ Map54 W' (w.heap.size + 1) xs.length (plP xs (downL xs.length xs.length)).1 (plP xs (downL xs.length xs.length)).2 ∧ Below w.heap.size w W' :=
  (callsIn_wide (n := 4)).1 (places_in Fence.wide 4 trivial trivial trivial rfl (Nat.le_refl _) A c xs w hC hok)
end Go.Proofs.Ytdlkpejlkijgcaa.Pr
