/- note.Read: what it computes, and that it does. Conditions: none. -/
import Derived.Test.YtfjhlcbpogihmaaKNoteBack7
import Derived.Test.YtfjhlcbpogihmaaKNoteBack4
import Derived.Test.YtfjhlcbpogihmaaGNoteBackPr17
import Derived.Test.YtfjhlcbpogihmaaKNoteBack3
namespace Go.Proofs.Ytfjhlcbpogihmaa.Pr
open Go.RowKit Go.Shelf Go.Proofs.YtfjhlcbpogihmaaW.PrintWords Go.Proofs.YtfjhlcbpogihmaaW.PrintLast Go.Proofs.YtfjhlcbpogihmaaW.PrintMore Go.Proofs.Ytfjhlcbpogihmaa.Hnd
attribute [local go_sem] Oper.semAt_some
set_option linter.unusedVariables false
set_option linter.unusedSimpArgs false
/-- A store of five cells into a box, inside a fence: the world behind it is told by its blocks. -/
theorem wpListIn_store5 {F : Fence} {n : Nat} {P : Program} {ops : Array Oper} {rest : List Oper} {o : Oper} {a : Act} {w : World} {Q : Exit → Act → World → Prop} (hgd : o.guard = none) (ty : TypeId) (d s : Operand) (ho : o.op = .store ty d s) (hdst : o.dst = none)
    (g : Nat) (hd : a.eval d = .pointer (some ⟨g, 0, none⟩)) (b0 b1 b2 b3 b4 : Value) (hs : a.eval s = .agg #[b0, b1, b2, b3, b4]) (a0 a1 a2 a3 a4 : Value) (t : TypeId) (h : w.heap[g]? = some (.cells #[a0, a1, a2, a3, a4] t (0, 0)))
    (hi : (P.info? ty).map (·.size) = some 5) (h1 : (b0.oneCell' && (b1.oneCell' && (b2.oneCell' && (b3.oneCell' && b4.oneCell')))) = true)
    (k : ∀ w', w'.heap[g]? = some (.cells #[b0, b1, b2, b3, b4] t (0, 0)) → (∀ B w0, B ≤ g → Below B w0 w → Below B w0 w') → wpListIn F n P ops Q rest a w') : wpListIn F n P ops Q (o :: rest) a w := by
  refine wpListIn_plain hgd fun K hK => ?_
  have hr := run_storeVar_row (P := P) w g t ty #[a0, a1, a2, a3, a4] #[b0, b1, b2, b3, b4] h hi rfl (by simpa [Bool.and_eq_true, and_assoc] using h1)
  unfold Oper.wpIn
  refine ⟨by simp [Oper.about, ho], ?_⟩
  rw [Oper.semAt_plain F _ _ (by rw [ho]; intro c hc'; cases hc')]
  simp only [execOp, ho, hd, hs, Instr.storeAt, Instr.sureAddr, Sem.run_bind, Sem.run_pure, Result.andThen_ok, hr]
  have hk := k _ (setRow_heap w g _ _ t (0, 0) h) (fun B w0 hB hb => row_below hb hB _)
  exact hK _ _ (by rw [hdst]; exact hk)
/-- append(v, x), x of several cells, inside a fence. -/
theorem R_appendIn {F : Fence} {n : Nat} {P : Program} {ops : Array Oper} {rest : List Oper} {o : Oper} {a : Act} {Q : Exit → Act → World → Prop} {α : Type} (d : Kd α) {w0 W : World} (base : Nat) (hgd : o.guard = none) (s x : Operand) (t e : TypeId) (z : Value) (bytes : Nat)
    (ho : o.op = .call { callee := .builtin .append, args := #[s, x], argTypes := #[t, t] })
    (ht : P.underlying t = some (.slice e)) (hinfo : (P.info? e).map (fun i => (i.zero, i.size, i.bytes)) = some (some z, d.sz, bytes)) (hz : z.cells.size = d.sz) (hs0 : 0 < d.sz) (hb0 : 0 < bytes)
    (v : Value) (xs : List α) (p : α) (cs : List Value) (ok okp : Nat → Prop) (hs : a.eval s = v) (hx : a.eval x = .slice (some ⟨W.heap.size, 0, none⟩) 1 1) (hp : d.M W base okp p cs) (hokp : ∀ k, okp k → ok k ∧ some k ≠ v.ownBlock) (hfresh : ∀ k, W.heap.size ≤ k → ok k)
    (HO : d.R e W base ok v xs) (HB : Below base w0 W) (hbase : base ≤ W.heap.size) (hl : (xs.length + 1) * bytes ≤ 140737488355328)
    (h : ∀ v1 w1, d.R e w1 base ok v1 (xs ++ [p]) → Below base w0 w1 → W.grownBy w1 v.ownBlock → (v1.ownBlock = v.ownBlock ∨ ∃ b, v1.ownBlock = some b ∧ W.heap.size ≤ b) → wpListIn F n P ops Q rest (a.put o.dst v1) w1) :
    wpListIn F n P ops Q (o :: rest) a (W.alloc (.cells cs.toArray e)) := by
  obtain ⟨h0, inner, hown, hr⟩ := HO
  have hys : cs.length = d.sz := d.K_len (d.K_of_M hp)
  have h1 := d.K_one (d.K_of_M hp)
  obtain ⟨i0, hi, hzz⟩ := Option.map_eq_some_iff.1 hinfo
  simp only [Prod.mk.injEq] at hzz
  obtain ⟨hz0, hz1, hz2⟩ := hzz
  have hlen : xs.length + 1 ≤ 140737488355328 := Nat.le_trans (Nat.le_mul_of_pos_right _ hb0) hl
  refine wpListIn_plain hgd fun K hK => ?_
  obtain ⟨v1, w1, hrun, h2, h3, h4, h5⟩ := run_append_own_at (P := P) (W.alloc (.cells cs.toArray e)) base t o.type e i0 z d.sz bytes ht hi hz0 hz1 hz2 hz hs0 v xs.length inner (hown.alloc _) ⟨W.heap.size, 0, none⟩ 1 1 cs (by rw [hys]; simp)
    (by simpa using World.news_of_block (cs := cs.toArray) (t := e) (fr := (0, 0)) (heap_alloc_new W (.cells cs.toArray e))) h1 (by simp only [maxLen]; omega) hl (by simp; omega)
  have hg1 : W.grownBy w1 v.ownBlock := World.grownBy.trans (World.grownBy_alloc W _ _) h3
  have hat : v1.ownBlock = v.ownBlock ∨ ∃ b, v1.ownBlock = some b ∧ W.heap.size ≤ b := by
    rcases h5 with hat | hat
    · exact .inl hat
    · exact .inr ⟨_, hat, by simp⟩
  unfold Oper.wpIn
  refine ⟨?_, ?_⟩
  · simp [Oper.about, ho, resolve, Target.leads, Sem.run_pure]
  · rw [Oper.semAt_plain F _ _ (by rw [ho]; intro c hc'; cases hc')]
    simp only [execOp, ho, resolve, invoke, builtin, Sem.run_bind, Sem.run_pure, Result.andThen_ok, List.map_toArray, List.map_cons, List.map_nil, hs, hx, hrun]
    exact hK _ _ (h v1 w1 (Kd.R_appended h0 hr hp hokp hfresh h2 hg1 hat) ((HB.alloc hbase _).grown h3 (by simp; omega) (own_base hown)) hg1 hat)
/-- What note.take tells of a sealed text. -/
abbrev TK := ByteArray × Int × Int × Int × Int × ByteArray × Bool
def TK.ok (t : TK) : Bool := t.2.2.2.2.2.2
def TK.note (t : TK) : S39 := ⟨t.2.1, t.2.2.1, t.2.2.2.1, t.2.2.2.2.1, t.2.2.2.2.2.1⟩
def takesF (k : Nat) : List ByteArray → Option (List TK)
  | [] => some []
  | s :: r => (note_take.f k s).bind fun t => (takesF k r).map ((s, t) :: ·)
def psum (T : List TK) : Int := T.foldl (fun p t => wrap64 (p + wrap64 (wrap64 (sizeI (IntKind.u64.wrap (t.1.size : Int)) + (t.1.size : Int)) + 4))) 0
theorem psum_snoc (T : List TK) (t : TK) : psum (T ++ [t]) = wrap64 (psum T + wrap64 (wrap64 (sizeI (IntKind.u64.wrap (t.1.size : Int)) + (t.1.size : Int)) + 4)) := by
  unfold psum
  rw [List.foldl_append]
  rfl
/-- A sealed text with what note.take tells of it. -/
abbrev TKs (k : Nat) := { t : TK // note_take.f k t.1 = some t.2 }
theorem psum_snoc' {k : Nat} (T : List (TKs k)) (t : TKs k) : psum (T.map (·.1) ++ [t].map (·.1)) = wrap64 (psum (T.map (·.1)) + wrap64 (wrap64 (sizeI (IntKind.u64.wrap (t.1.1.size : Int)) + (t.1.1.size : Int)) + 4)) := psum_snoc _ _
def note_Read.f (k : Nat) (b : ByteArray) : Option (List S39 × Int) :=
  (allF k (b.size + 1) b).bind fun L => (takesF k L).bind fun T => if T.length < 2932031007402 then some ((T.takeWhile TK.ok).map TK.note, psum (T.takeWhile TK.ok)) else none
theorem takes_list (k : Nat) : ∀ (L : List ByteArray) (T : List TK), takesF k L = some T → ∃ T' : List (TKs k), T'.map (·.1) = T ∧ T'.map (fun t => t.1.1) = L
  | [], T, h => by
    simp only [takesF, Option.some.injEq] at h
    subst h
    exact ⟨[], rfl, rfl⟩
  | s :: r, T, h => by
    unfold takesF at h
    obtain ⟨t, ht, h⟩ := Option.bind_eq_some_iff.mp h
    obtain ⟨R, hR, rfl⟩ := Option.map_eq_some_iff.1 h
    obtain ⟨T', e1, e2⟩ := takes_list k r R hR
    exact ⟨⟨(s, t), ht⟩ :: T', by rw [List.map_cons, e1], by rw [List.map_cons, e2]⟩
/-- How far note.Read has come. -/
def RFar (w : World) (T : List TK) (W : World) : Prop :=
  ∃ v, Kd.R k39 39 W w.heap.size (fun _ => True) v (T.map TK.note) ∧ W.heap[w.heap.size]? = some (.cells #[v] 22 (0, 0)) ∧ W.heap[w.heap.size + 1]? = some (.cells #[.int .i64 (psum T)] 3 (0, 0)) ∧ Below w.heap.size w W
def RInv {k : Nat} (w : World) (pre : List (TKs k)) (W : World) : Prop := (∀ t ∈ pre, TK.ok t.1 = true) ∧ RFar w (pre.map (·.1)) W
def REnd {k : Nat} (w : World) (ys : List (TKs k)) (W : World) : Prop := ∃ pre x, ys = pre ++ [x] ∧ TK.ok x.1 = false ∧ RInv w pre W
theorem R_kept {w A B : World} {v : Value} {xs : List S39} {row : Option Nat} (h : Kd.R k39 39 A w.heap.size (fun _ => True) v xs) (hg : A.grownBy B row) (hr : ∀ r, row = some r → ∃ o : Obj, A.heap[r]? = some o ∧ o.isCells = false) : Kd.R k39 39 B w.heap.size (fun _ => True) v xs :=
  Kd.R_mono (Kd.R_grown (Kd.R_bound h) hg (fun k hk e => by
    obtain ⟨_, _, _, q, _, cs, hc⟩ := hk
    obtain ⟨o, ho, hn⟩ := hr k e.symm
    rw [hc] at ho
    cases ho
    cases hn)) (fun _ _ => trivial)
theorem rows_cells {w A : World} {v : Value} {xs : List S39} (h : Kd.R k39 39 A w.heap.size (fun _ => True) v xs) : ∀ (j : Nat) (o : Obj), v.ownBlock = some j → A.heap[j]? = some o → o.isCells = true := by
  intro j o e ho
  obtain ⟨cs, hc⟩ := own_typed (Kd.R_own h).choose_spec j e
  rw [hc] at ho
  cases ho
  rfl
theorem blk_kept {A B : World} {g : Nat} {c : Array Value} {t : TypeId} {row : Option Nat} (h : A.heap[g]? = some (.cells c t (0, 0))) (hg : A.grownBy B row) (hr : ∀ r, row = some r → ∃ o : Obj, A.heap[r]? = some o ∧ o.isCells = false) : B.heap[g]? = some (.cells c t (0, 0)) :=
  blk_grown h hg (fun e => by obtain ⟨o, ho, hn⟩ := hr g e.symm; rw [h] at ho; cases ho; cases hn)
theorem RFar.kept {w A B : World} {T : List TK} {row : Option Nat} (h : RFar w T A) (hg : A.grownBy B row) (hr : ∀ r, row = some r → w.heap.size ≤ r ∧ ∃ o : Obj, A.heap[r]? = some o ∧ o.isCells = false) : RFar w T B := by
  obtain ⟨v, hv, b0, b1, hb⟩ := h
  have hr2 := fun r e => (hr r e).2
  exact ⟨v, R_kept hv hg hr2, blk_kept b0 hg hr2, blk_kept b1 hg hr2, hb.grown hg hb.size (fun k_ e => (hr k_ e).1)⟩
theorem takeWhile_all {α : Type} (f : α → Bool) : ∀ l : List α, (∀ x ∈ l, f x = true) → l.takeWhile f = l
  | [], _ => rfl
  | x :: r, h => by rw [List.takeWhile_cons, if_pos (h x (List.mem_cons_self ..)), takeWhile_all f r (fun y hy => h y (List.mem_cons_of_mem _ hy))]
theorem takeWhile_stop {α : Type} (f : α → Bool) : ∀ (l : List α) (x : α) (r : List α), (∀ y ∈ l, f y = true) → f x = false → (l ++ x :: r).takeWhile f = l
  | [], x, r, _, hx => by rw [List.nil_append, List.takeWhile_cons, if_neg (by rw [hx]; decide)]
  | y :: l, x, r, h, hx => by rw [List.cons_append, List.takeWhile_cons, if_pos (h y (List.mem_cons_self ..)), takeWhile_stop f l x r (fun z hz => h z (List.mem_cons_of_mem _ hz)) hx]
set_option maxRecDepth 100000 in
set_option maxHeartbeats 4000000 in
theorem read_in (k m : Nat) (n : Nat) (hn : 4 ≤ n) (b : ByteArray) (T : List (TKs k)) (hL : allF k m b = some (T.map (fun t => t.1.1))) (hlen : T.length < 2932031007402) (w : World) :
    CallsIn Fence.wide n Try.prog 23 #[.string b] w fun e w' => ∃ v0_, e = .returned (.tuple #[v0_, .int .i64 (psum ((T.map (·.1)).takeWhile TK.ok))]) ∧ Kd.R k39 39 w' w.heap.size (fun _ => True) v0_ (((T.map (·.1)).takeWhile TK.ok).map TK.note) ∧ Below w.heap.size w w' := by
  have h1 : 1 ≤ n := by omega
  refine callsIn_of_wp_marks Try.func23 rfl trivial ?_ rfl
  simp only [Try.ntmps23, List.size_toArray, List.length_cons, List.length_nil, Nat.reduceAdd, Nat.reduceSub, Array.replicate_succ, Array.replicate_zero, List.push_toArray, List.append_toArray, List.nil_append, List.cons_append]
  gi_wp2
  refine ⟨trivial, (all_in (n - 1) b _).mono ?_⟩
  rintro e w' ⟨rfl, rfl⟩
  gi_wp2
  have bO := blk_alloc (blk_alloc (World.alloc_heap_new w (.cells #[.slice none 0 0] 22)) (.cells #[.int .i64 0] 3)) (.cells #[.string b] 9)
  have bA := blk_alloc (World.alloc_heap_new (w.alloc (.cells #[.slice none 0 0] 22)) (.cells #[.int .i64 0] 3)) (.cells #[.string b] 9)
  have bS := World.alloc_heap_new ((w.alloc (.cells #[.slice none 0 0] 22)).alloc (.cells #[.int .i64 0] 3)) (.cells #[.string b] 9)
  simp only [World.size_alloc] at bA bS
  have hB0 : Below w.heap.size w (((w.alloc (.cells #[.slice none 0 0] 22)).alloc (.cells #[.int .i64 0] 3)).alloc (.cells #[.string b] 9)) := below_alloc (below_alloc (below_alloc (Below.refl _ _) _) _) _
  have hsz : (((w.alloc (.cells #[.slice none 0 0] 22)).alloc (.cells #[.int .i64 0] 3)).alloc (.cells #[.string b] 9)).heap.size = w.heap.size + 3 := by simp
  obtain ⟨W0, hW0⟩ : ∃ W0, (((w.alloc (.cells #[.slice none 0 0] 22)).alloc (.cells #[.int .i64 0] 3)).alloc (.cells #[.string b] 9)) = W0 := ⟨_, rfl⟩
  rw [hW0] at bO bA bS hB0 hsz ⊢
  clear hW0
  refine wpIn_rangeFunc_ownH rfl h1 (gf := 82) (lb := #[.pointer (some ⟨w.heap.size + 1 + 1, 0, none⟩)]) rfl trivial (enters_of Try.func82 (by kernel_rfl) rfl)
    (all_stops (fun t : TKs k => t.1.1) k m (n - 1) (by omega) (w.heap.size + 1 + 1) b T hL W0 bS)
    (fun _ _ => trivial) (fun _ _ _ _ _ _ _ _ => trivial) (Below.refl _ _) (fun _ => rfl)
    (RInv w)
    (fun c_ pre W => c_ = .exit 0 ∧ REnd w pre W)
    (fun s A B row hs hg hr => ⟨hs.1, hs.2.kept hg (fun r e => ⟨by have := (hr r e).1; omega, (hr r e).2⟩)⟩)
    (fun c_ s A B row hs hg hr => by
      obtain ⟨e1, pre, x, e2, e3, e4, e5⟩ := hs
      exact ⟨e1, pre, x, e2, e3, e4, e5.kept hg (fun r e => ⟨by have := (hr r e).1; omega, (hr r e).2⟩)⟩)
    ⟨fun _ h => absurd h List.not_mem_nil, .slice none 0 0, Kd.R_nil _ _ _ _ _, bO, bA, hB0⟩
    (fun x a' W => a' = { tmps := #[.string b, undef, .slice none 0 0, .int .i64 0, .pointer (some ⟨w.heap.size, 0, none⟩), .pointer (some ⟨w.heap.size + 1, 0, none⟩), .string x.1.1, undef, undef, .string b, .func (.func 82) #[] #[.pointer (some ⟨w.heap.size + 1 + 1, 0, none⟩)], .string x.1.1, undef, undef, undef, undef, undef, undef, undef, undef, undef, undef, undef, undef, undef, undef, undef, undef, undef, undef, undef, undef, undef, undef, undef], defers := [] })
    (fun x a' s A B row hs hg hr => hs) ?assign ?body ?done ?stop
  case assign =>
    rintro l pre x W K hI hK
    gi_wp2
    exact hK _ _ ((KeepsOthers.refl _).from _) trivial hI rfl
  case body =>
    rintro l pre ⟨⟨x, t1, t2, t3, t4, t5, t6⟩, hx⟩ a' W hl ⟨r, hr⟩ ⟨hok, v, hv, b0, b1, hb⟩ rfl hlt
    have hmx : Try.prog.follows .mixedOrders = true := by kernel_rfl
    have hd : 1 ≤ n - 1 - 1 := by omega
    have hf53 : Fence.wide.fn 53 := trivial
    dsimp only at hx
    gi_wp2
    refine ⟨trivial, (CallsIn.inRound l ((callsIn_wide (n := _)).2 (note_take.calls k x t1 t2 t3 t4 t5 t6 _ hx))).mono ?_⟩
    rintro e w1 ⟨rfl, hb1⟩
    have hs1 : w.heap.size + 1 < w1.heap.size := blk_lt (blk_below b1 hb1)
    have hs0 : w.heap.size < w1.heap.size := blk_lt (blk_below b0 hb1)
    have HV := Aside0.mk (Kd.R_below hv hb1)
    have HB0 := Aside0.mk (blk_below b0 hb1)
    have HB1 := Aside0.mk (blk_below b1 hb1)
    have HB := Aside0.mk (below_call hb hb1)
    have HK := Aside0.mk hb1
    have c0 := blk_cell HB0.out 0
    have c1 := blk_cell HB1.out 0
    have f0 := blk_frozen HB0.out 0
    have f1 := blk_frozen HB1.out 0
    clear hb1 hv b0 b1 hb
    cases t6 with
    | false =>
      gi_wp2_with (refine wpListIn_store5 rfl 39 (.tmp 7) (.tmp 15) rfl rfl w1.heap.size rfl _ _ _ _ _ rfl _ _ _ _ _ 39 (blk_new w1 _) (by kernel_rfl) rfl ?_; intro w2 hn hbel; have hb2 := hbel _ _ (Nat.le_refl _) (below_alloc (Below.refl w1.heap.size w1) _); have HV2 := Aside0.mk (Kd.R_below HV.out hb2); have HB02 := Aside0.mk (blk_below HB0.out hb2); have HB12 := Aside0.mk (blk_below HB1.out hb2); have HB2 := Aside0.mk (below_call HB.out hb2); have HK2 := Aside0.mk (below_call HK.out hb2); have HN2 := Aside0.mk hn; have hl2 := blk_lt hn; clear c0 c1 f0 f1 hn hbel hb2 HV HB0 HB1 HB HK; have c0 := blk_cell HB02.out 0; have c1 := blk_cell HB12.out 0; have f0 := blk_frozen HB02.out 0; have f1 := blk_frozen HB12.out 0; have d0 := blk_cell HN2.out 0; have d1 := blk_cell HN2.out 1; have d2 := blk_cell HN2.out 2; have d3 := blk_cell HN2.out 3; have d4 := blk_cell HN2.out 4)
      refine ⟨(KeepsOthers.of_grownBy (below_grown' HK2.out) (fun _ _ e => by cases e)).from _, rfl, pre, _, rfl, rfl, hok, v, HV2.out, HB02.out, HB12.out, HB2.out⟩
    | true =>
      gi_wp2_with (first | (refine wpListIn_store5 rfl 39 (.tmp 7) (.tmp 15) rfl rfl w1.heap.size rfl _ _ _ _ _ rfl _ _ _ _ _ 39 (blk_new w1 _) (by kernel_rfl) rfl ?_; intro w2 hn hbel; have hb2 := hbel _ _ (Nat.le_refl _) (below_alloc (Below.refl w1.heap.size w1) _); have HV2 := Aside0.mk (Kd.R_below HV.out hb2); have HB02 := Aside0.mk (blk_below HB0.out hb2); have HB12 := Aside0.mk (blk_below HB1.out hb2); have HB2 := Aside0.mk (below_call HB.out hb2); have HK2 := Aside0.mk (below_call HK.out hb2); have HN2 := Aside0.mk hn; have hl2 := blk_lt hn; clear c0 c1 f0 f1 hn hbel hb2 HV HB0 HB1 HB HK; have c0 := blk_cell HB02.out 0; have c1 := blk_cell HB12.out 0; have f0 := blk_frozen HB02.out 0; have f1 := blk_frozen HB12.out 0; have d0 := blk_cell HN2.out 0; have d1 := blk_cell HN2.out 1; have d2 := blk_cell HN2.out 2; have d3 := blk_cell HN2.out 3; have d4 := blk_cell HN2.out 4) | (gi_at_builtin; refine R_appendIn k39 (w0 := w) w.heap.size rfl (.tmp 19) (.tmp 21) 22 39 (.agg #[(.int .i64 0), (.int .u64 0), (.int .u64 0), (.int .u64 0), (.string ⟨#[]⟩)]) 48 rfl Try.underlying22 info39 rfl (by decide) (by omega) v ((pre.map (·.1)).map TK.note) (⟨t1, t2, t3, t4, t5⟩ : S39) [.int .i64 t1, .int .u64 t2, .int .u64 t3, .int .u64 t4, .string t5] (fun _ => True) (fun _ => False) rfl rfl (k39_mkM _ _ _ (⟨t1, t2, t3, t4, t5⟩ : S39)) (fun _ h => h.elim) (fun _ _ => trivial) HV2.out HB2.out HB2.out.size (by simp only [List.length_map]; omega) ?_; intro v1 w3 ho hb3 hg3 hat; obtain ⟨A1, cc1, rfl⟩ := Kd.R_slice ho; have HO3 := Aside0.mk ho; have HB3 := Aside0.mk hb3; have hB03 := blk_grown HB02.out hg3 (Kd.R_ne HV2.out HB02.out (by decide)); have hB13 := blk_grown HB12.out hg3 (Kd.R_ne HV2.out HB12.out (by decide)); have HK3 := Aside0.mk ((KeepsOthers.of_grownBy (below_grown' HK2.out) (fun _ _ e => by cases e)).trans (KeepsOthers.of_grownBy hg3 (rows_cells HV2.out))); clear c0 c1 f0 f1 d0 d1 d2 d3 d4 hl2 ho hb3 hg3 hat HV2 HB02 HB12 HB2 HK2 HN2; have HB03 := Aside0.mk hB03; have HB13 := Aside0.mk hB13; clear hB03 hB13; have c0 := blk_cell HB03.out 0; have c1 := blk_cell HB13.out 0; have f0 := blk_frozen HB03.out 0; have f1 := blk_frozen HB13.out 0))
      have n2 := HO3.out
      have hl_ : (List.map TK.note (List.map (fun t : TKs k => t.1) pre) ++ [(⟨t1, t2, t3, t4, t5⟩ : S39)]).length = pre.length + 1 := by simp
      rw [hl_] at n2
      clear hl_
      have n0 := blk_put (cs' := #[.slice A1 (pre.length + 1) cc1]) HB03.out 0 (.slice A1 (pre.length + 1) cc1) rfl
      have n1 := blk_far HB13.out (p := ⟨w.heap.size, 0, none⟩) (by show w.heap.size + 1 ≠ w.heap.size; omega) (.slice A1 (pre.length + 1) cc1)
      replace n2 := Kd.R_set n2 HB03.out (by decide) 0 (.slice A1 (pre.length + 1) cc1)
      have n3 := HB3.out.setCell (p := ⟨w.heap.size, 0, none⟩) (Nat.le_refl _) (.slice A1 (pre.length + 1) cc1)
      have n4 := HK3.out.trans (KeepsOthers.setCell w3 ⟨w.heap.size, 0, none⟩ (.slice A1 (pre.length + 1) cc1))
      generalize w3.setCell ⟨w.heap.size, 0, none⟩ (.slice A1 (pre.length + 1) cc1) = w4 at n0 n1 n2 n3 n4 ⊢
      have N0 := Aside0.mk n0
      have N1 := Aside0.mk n1
      have N2 := Aside0.mk n2
      have N3 := Aside0.mk n3
      have N4 := Aside0.mk n4
      clear c0 c1 f0 f1 HO3 HB3 HB03 HB13 HK3 n0 n2 n3 n4
      have y1 := blk_cell n1 0
      have f1 := blk_frozen n1 0
      have fy := blk_lt n1
      clear n1
      have hok' : ∀ t ∈ pre ++ [(⟨(x, t1, t2, t3, t4, t5, true), hx⟩ : TKs k)], TK.ok t.1 = true := by
        intro t ht
        rcases List.mem_append.1 ht with h | h
        · exact hok t h
        · rw [List.mem_singleton.1 h]; rfl
      gi_region_with_o (gi_at_call 53; refine (CallsIn.inRound l ((callsIn_wide (n := _)).2 (pack_Size.calls0 _ (inU64_wrapW _) _))).mono ?_; rintro e w' ⟨rfl, rfl⟩)
      all_goals gi_wp2
      all_goals refine ⟨((N4.out.trans (KeepsOthers.setCell _ _ _)).trans (KeepsOthers.drew _)).from _, trivial, hok', .slice A1 (pre.length + 1) cc1, ?_⟩
      all_goals rw [List.map_append, List.map_append, psum_snoc']
      all_goals exact ⟨Kd.R_set N2.out N1.out (by decide) 0 _, blk_drew (blk_far N0.out (by show w.heap.size ≠ w.heap.size + 1; omega) _), blk_drew (blk_put N1.out 0 _ (by simp only [i64_w]; rfl)), below_drew1 (below_set N3.out (Nat.le_succ _))⟩
  case done =>
    rintro D ys W hD rfl ⟨hok, v, hv, b0, b1, hb⟩ hK
    have hall : (ys.map (fun t : TKs k => t.1)).takeWhile TK.ok = ys.map (fun t : TKs k => t.1) := takeWhile_all _ _ (fun t ht => by obtain ⟨u, hu, rfl⟩ := List.mem_map.1 ht; exact hok u hu)
    obtain ⟨A1, cc1, rfl⟩ := Kd.R_slice hv
    have z0 := blk_cell b0 0
    have z1 := blk_cell b1 0
    have hmx : Try.prog.follows .mixedOrders = true := by kernel_rfl
    have w0 := blk_lt b0
    have w1 := blk_lt b1
    have f0 := blk_frozen b0 0
    have f1 := blk_frozen b1 0
    gi_wp2
    gi_region
    gi_wp2
    refine ⟨by simp, .inl ⟨_, _, rfl, run_takeDeferred hK, ?_⟩⟩
    rw [hall]
    have hg := grownBy_putObj' W.drew D (Obj.deferred none)
    have hr2 : ∀ r, some D = some r → ∃ o : Obj, W.drew.heap[r]? = some o ∧ o.isCells = false := fun r e => by cases e; exact ⟨_, hK, rfl⟩
    exact ⟨_, (by simp [results, Try.results23, go_sem]), .slice A1 (List.map TK.note (List.map (fun t : TKs k => t.1) ys)).length cc1, rfl, R_kept (Kd.R_drew hv) hg hr2, (below_drew1 hb).grown hg hb.size (fun k_ e => by cases e; omega)⟩
  case stop =>
    rintro D cc ys W hD hpre ⟨rfl, pre, x, rfl, hx, hok, v, hv, b0, b1, hb⟩ hK
    obtain ⟨r, hr⟩ := hpre
    have hstop : (T.map (fun t : TKs k => t.1)).takeWhile TK.ok = pre.map (fun t : TKs k => t.1) := by
      rw [← hr, List.append_assoc, List.map_append]
      exact takeWhile_stop _ _ x.1 _ (fun t ht => by obtain ⟨u, hu, rfl⟩ := List.mem_map.1 ht; exact hok u hu) hx
    obtain ⟨A1, cc1, rfl⟩ := Kd.R_slice hv
    have z0 := blk_cell b0 0
    have z1 := blk_cell b1 0
    have hmx : Try.prog.follows .mixedOrders = true := by kernel_rfl
    have w0 := blk_lt b0
    have w1 := blk_lt b1
    have f0 := blk_frozen b0 0
    have f1 := blk_frozen b1 0
    gi_wp2
    gi_region
    gi_wp2
    refine ⟨by simp, .inl ⟨_, _, rfl, run_takeDeferred hK, ?_⟩⟩
    rw [hstop]
    have hg := grownBy_putObj' W.drew D (Obj.deferred none)
    have hr2 : ∀ r, some D = some r → ∃ o : Obj, W.drew.heap[r]? = some o ∧ o.isCells = false := fun r e => by cases e; exact ⟨_, hK, rfl⟩
    exact ⟨_, (by simp [results, Try.results23, go_sem]), .slice A1 (List.map TK.note (List.map (fun t : TKs k => t.1) pre)).length cc1, rfl, R_kept (Kd.R_drew hv) hg hr2, (below_drew1 hb).grown hg hb.size (fun k_ e => by cases e; omega)⟩
theorem note_Read.calls (k : Nat) (a0 : ByteArray) (r1 : List S39) (r2 : Int) (w : World) (h : note_Read.f k a0 = some (r1, r2)) :
    Calls Try.prog 23 #[.string a0] w fun e w' => ∃ v0_, e = .returned (.tuple #[v0_, .int .i64 r2]) ∧ Kd.R k39 39 w' w.heap.size (fun _ => True) v0_ r1 ∧ Below w.heap.size w w' := by
  unfold note_Read.f at h
  obtain ⟨L, hL, h⟩ := Option.bind_eq_some_iff.mp h
  obtain ⟨T, hT, h⟩ := Option.bind_eq_some_iff.mp h
  by_cases hl : T.length < 2932031007402
  rotate_left
  · rw [if_neg hl] at h; cases h
  rw [if_pos hl] at h
  simp only [Option.some.injEq, Prod.mk.injEq] at h
  obtain ⟨rfl, rfl⟩ := h
  obtain ⟨T', rfl, rfl⟩ := takes_list k L T hT
  exact (callsIn_wide (n := 4)).1 (read_in k _ 4 (Nat.le_refl _) a0 T' hL (by simpa using hl) w)
end Go.Proofs.Ytfjhlcbpogihmaa.Pr
