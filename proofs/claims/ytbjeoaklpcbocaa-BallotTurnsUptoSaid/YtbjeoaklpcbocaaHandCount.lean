/- ballot.Count: what it computes, and that it does. Conditions: none. -/
import Derived.Test.YtbjeoaklpcbocaaHandMost
namespace Go.Proofs.Ytbjeoaklpcbocaa.Pr
open Go.RowKit Go.Proofs.YtbjeoaklpcbocaaW.PrintWords Go.Proofs.YtbjeoaklpcbocaaW.PrintLast Go.Proofs.YtbjeoaklpcbocaaW.PrintMore
open Go.Proofs.Ytbjeoaklpcbocaa.Hnd
attribute [local go_sem] setCell_drewN_ alloc_drewN_
set_option linter.unusedVariables false
set_option linter.unusedSimpArgs false
/-- A store of two cells into a box: the world behind it is told by its blocks. -/
theorem wpList_store2 {P : Program} {ops : Array Oper} {rest : List Oper} {o : Oper} {a : Act} {w : World} {Q : Exit → Act → World → Prop} (hgd : o.guard = none) (ty : TypeId) (d s : Operand) (ho : o.op = .store ty d s) (hdst : o.dst = none)
    (g : Nat) (hd : a.eval d = .pointer (some ⟨g, 0, none⟩)) (b0 b1 : Value) (hs : a.eval s = .agg #[b0, b1]) (a0 a1 : Value) (t : TypeId) (h : w.heap[g]? = some (.cells #[a0, a1] t (0, 0)))
    (hi : (P.info? ty).map (·.size) = some 2) (h1 : (b0.oneCell' && b1.oneCell') = true)
    (k : ∀ w', w'.heap[g]? = some (.cells #[b0, b1] t (0, 0)) → (∀ B w0, B ≤ g → Below B w0 w → Below B w0 w') → wpList P ops Q rest a w') : wpList P ops Q (o :: rest) a w := by
  refine wpList_plain hgd fun K hK => ?_
  have hr := run_storeVar_row (P := P) w g t ty #[a0, a1] #[b0, b1] h hi rfl (by simpa [Bool.and_eq_true, and_assoc] using h1)
  unfold Oper.wp
  simp only [execOp, ho, hd, hs, Instr.storeAt, Instr.sureAddr, Sem.run_bind, Sem.run_pure, Result.andThen_ok, hr]
  have hk := k _ (setRow_heap w g _ _ t (0, 0) h) (fun B w0 hB hb => hb.trans ⟨rfl, rfl, rfl, by simp, fun k hk => setRow_other w g k _ (by omega)⟩)
  exact hK _ _ (by rw [hdst]; exact hk)
theorem eqV {a b : S46} (h : a.f0 = b.f0 ∧ a.f1 = b.f1) : a = b := by
  cases a
  cases b
  obtain ⟨h0, h1⟩ := h
  dsimp only at h0 h1
  rw [h0, h1]
instance : DecidableEq S46 := fun a b => if h : a.f0 = b.f0 ∧ a.f1 = b.f1 then .isTrue (eqV h) else .isFalse (fun e => h (by rw [e]; exact ⟨rfl, rfl⟩))
def enc46 (x : S46) : Value := .agg #[.int .u64 x.f0, .bool x.f1]
def okV (x : S46) : Prop := okU x.f0
theorem enc46_inj (x y : S46) (h : enc46 x = enc46 y) : x = y := by
  cases x
  cases y
  simp [enc46] at h
  simp [h]
theorem laidOut : laidOutB Try.prog = true := by kernel_rfl
theorem keyed46 : Go.Maps.Keyed Try.prog 46 := Go.Maps.Keyed.of_law (deep_law_laid laidOut (m := 3) (by decide) (of_decide_eq_true (by kernel_rfl)) (by kernel_rfl) (by kernel_rfl))
theorem key46 (x : S46) (h : okV x) : ∃ kl, keyOf Try.prog 46 (enc46 x) = some kl := by
  have h0 : (Lit.int .u64 x.f0).wf = true := h
  have kt : Try.prog.keyType 46 = true := by kernel_rfl
  have c46 : Try.prog.cellsOf 46 = 2 := by kernel_rfl
  have c22 : Try.prog.cellsOf 22 = 1 := by kernel_rfl
  have c4 : Try.prog.cellsOf 4 = 1 := by kernel_rfl
  have fm : (enc46 x).formed Try.prog 46 = true := by
    unfold enc46
    simp [Value.formed, Try.underlying46, c46]
  have e1 : ∀ d n, (Lit.int .u64 n).wf = true → Try.prog.keyLits (d + 1) 22 [.int .u64 n] = some [.int .u64 n] := fun d n hn => by
    simp [Program.keyLits, Try.underlying22, hn]
  have e3 : ∀ d b, Try.prog.keyLits (d + 1) 4 [.bool b] = some [.bool b] := fun d b => by
    simp [Program.keyLits, Try.underlying4]
  have e2 : ∀ d, ∃ ls, Try.prog.keyLits (d + 2) 46 [.int .u64 x.f0, .bool x.f1] = some ls := fun d => by
    unfold Program.keyLits
    rw [Try.underlying46]
    simp [c46, c22, c4, e1 d _ h0, e3 d]
  obtain ⟨d, hd⟩ : ∃ d, Try.prog.types.size + 1 = d + 2 := ⟨Try.prog.types.size - 1, by have : 0 < Try.prog.types.size := of_decide_eq_true (by kernel_rfl); omega⟩
  obtain ⟨ls, hl⟩ := e2 d
  unfold keyOf
  rw [Try.underlying46]
  simp only [kt, fm, Bool.and_self, if_true, hd]
  unfold enc46
  simp only [Value.cells]
  rw [hl]
  exact ⟨_, rfl⟩
abbrev Set59 := MapB Try.prog 46 4 enc46 okV
theorem look59 {w : World} {b n : Nat} {S : S46 → Bool} (h : Set59 w b n S) (x : Int) (y : Bool) (hx : okU x) : (Instr.lookup 59 (.map (some b)) (.agg #[.int .u64 x, .bool y]) false).run Try.prog w = .ok (.bool (S ⟨x, y⟩)) w := by
  obtain ⟨kl, hk⟩ := key46 ⟨x, y⟩ hx
  exact MapB.lookup (x := (⟨x, y⟩ : S46)) h keyed46 Try.underlying59 Try.underlying4 (zero4 w) hx hk
def inV (l : List S46) : S46 → Bool := fun y => decide (y ∈ l)
/-- One voice more. -/
def stepV (st : List S46 × List Int) (v : S46) : List S46 × List Int :=
  if inV st.1 ⟨v.f0, !v.f1⟩ = true then st else if inV st.1 v = true then st else (st.1 ++ [v], if v.f1 = true then st.2 ++ [v.f0] else st.2)
def foldV (l : List S46) : List S46 × List Int := l.foldl stepV ([], [])
theorem foldV_next (l : List S46) (i : Nat) (h : i < l.length) : foldV (l.take (i + 1)) = stepV (foldV (l.take i)) l[i] := by
  unfold foldV
  rw [List.take_succ_eq_append_getElem h, List.foldl_append]
  rfl
theorem foldV_snoc (l : List S46) (v : S46) : foldV (l ++ [v]) = stepV (foldV l) v := by
  unfold foldV
  rw [List.foldl_append]
  rfl
theorem inV_snoc (l : List S46) (v : S46) : (fun z => if z = v then true else inV l z) = inV (l ++ [v]) := by
  funext z
  unfold inV
  by_cases hz : z = v
  · rw [if_pos hz, hz, decide_eq_true (List.mem_append.2 (.inr (List.mem_singleton.2 rfl)))]
  · rw [if_neg hz]
    exact decide_eq_decide.2 ⟨fun h => List.mem_append.2 (.inl h), fun h => (List.mem_append.1 h).resolve_right (fun h => hz (List.mem_singleton.1 h))⟩
theorem stepV_ok (p : Int → Prop) (st : List S46 × List Int) (v : S46) (h : ∀ x ∈ st.2, p x) (hv : p v.f0) : ∀ x ∈ (stepV st v).2, p x := by
  unfold stepV
  split
  · exact h
  · split
    · exact h
    · dsimp only
      split
      · intro x hx
        rcases List.mem_append.1 hx with hx | hx
        · exact h x hx
        · rw [List.mem_singleton.1 hx]; exact hv
      · exact h
theorem foldV_ok (p : Int → Prop) (l : List S46) (h : ∀ v ∈ l, p v.f0) : ∀ x ∈ (foldV l).2, p x := by
  have go : ∀ (r : List S46) (st : List S46 × List Int), (∀ v ∈ r, p v.f0) → (∀ x ∈ st.2, p x) → ∀ x ∈ (r.foldl stepV st).2, p x := by
    intro r
    induction r with
    | nil => intro st _ h; exact h
    | cons v r ih => intro st hr h; exact ih _ (fun u hu => hr u (List.mem_cons_of_mem _ hu)) (stepV_ok p st v h (hr v (List.mem_cons_self ..)))
  exact go l _ h (fun x hx => by cases hx)
theorem foldV_len (l : List S46) : (foldV l).2.length ≤ l.length := by
  have st1 : ∀ (st : List S46 × List Int) v, (stepV st v).2.length ≤ st.2.length + 1 := by
    intro st v
    unfold stepV
    split
    · omega
    · split
      · omega
      · dsimp only
        split
        · rw [List.length_append, List.length_singleton]
          omega
        · omega
  have go : ∀ (r : List S46) (st : List S46 × List Int), (r.foldl stepV st).2.length ≤ st.2.length + r.length := by
    intro r
    induction r with
    | nil => intro st; exact Nat.le_refl _
    | cons v r ih => intro st; have := ih (stepV st v); have := st1 st v; rw [List.foldl_cons, List.length_cons]; omega
  have := go l ([], [])
  rw [List.length_nil, Nat.zero_add] at this
  exact this
/-- How many have not said no. -/
def leftN : List Int → (S46 → Bool) → Nat
  | [], _ => 0
  | v :: r, S => if S ⟨v, false⟩ = true then leftN r S else leftN r S + 1
theorem leftN_cons (v : Int) (r : List Int) (S : S46 → Bool) : leftN (v :: r) S = if S ⟨v, false⟩ = true then leftN r S else leftN r S + 1 := rfl
def countV (vs : List Int) (l : List S46) : Int :=
  if (cntN vs (inL (foldV l).2) : Int) ≥ needI vs.length then 1 else if (leftN vs (inV (foldV l).1) : Int) < needI vs.length then 2 else 0
theorem info22 : (Try.prog.info? 22).map (fun i => (i.zero, i.size, i.bytes)) = some (some (.int .u64 0), 1, 8) := by kernel_rfl
theorem rdV_at (l : List S46) (i : Nat) (h : i < l.length) : rd_T46 l (i : Int) = l[i] := by simp [rd_T46, List.getD_eq_getElem?_getD, h]
set_option maxHeartbeats 2000000 in
set_option maxRecDepth 100000 in
theorem ballot_Count.calls_ (A0 : Option Addr) (c0 : Nat) (vs : List Int) (A1 : Option Addr) (n1 c1 : Nat) (A2 : Option Addr) (c2 : Nat) (l : List S46) (w : World) (hr0 : Kd.C (Kd.int .u64) w A0 vs.length vs) (hr2 : Kd.C k46 w A2 l.length l)
    (hok0 : ∀ x ∈ vs, okU x) (hok2 : ∀ x ∈ l, okV x) (hlen : l.length < 17592186044415) :
    Calls Try.prog 16 #[.agg #[.slice A0 vs.length c0, .slice A1 n1 c1], .slice A2 l.length c2] w fun e w' => e = .returned (.int .i64 (countV vs l)) ∧ Below w.heap.size w w' := by
  have hmm := @run_makeMap Try.prog
  have HR0 := Aside0.mk hr0
  have HR2 := Aside0.mk hr2
  have HOK0 := Aside0.mk hok0
  have HOK2 := Aside0.mk hok2
  have HL0 : vs.length ≤ 9223372036854775807 := hr0.2.1
  clear hr0 hr2 hok0 hok2
  go_enter Try.func16, Try.ntmps16
  go_wp2_with fail
  have n0 := blk_alloc (blk_new w (.cells #[.slice A0 vs.length c0, .slice A1 n1 c1] 35)) (.map #[] 0)
  have n1_ : Set59 ((w.alloc (.cells #[.slice A0 vs.length c0, .slice A1 n1 c1] 35)).alloc (.map #[] 0)) (w.heap.size + 1) 0 (inV (foldV (l.take 0)).1) := by
    have h : Set59 ((w.alloc (.cells #[.slice A0 vs.length c0, .slice A1 n1 c1] 35)).alloc (.map #[] 0)) (w.alloc (.cells #[.slice A0 vs.length c0, .slice A1 n1 c1] 35)).heap.size 0 (fun _ => false) := MapB.made _
    rw [World.size_alloc] at h
    exact h
  have n2 : Below w.heap.size w ((w.alloc (.cells #[.slice A0 vs.length c0, .slice A1 n1 c1] 35)).alloc (.map #[] 0)) := below_alloc (below_alloc (Below.refl _ _) _) _
  have N0 := Aside0.mk n0
  have N1 := Aside0.mk n1_
  have N2 := Aside0.mk n2
  clear n0 n1_ n2 hmm
  go_loopg [6, 8, 15] l.length (fun g v6 v8 v15 wr => ∃ i : Nat, v15 = .int .i64 (i : Int) ∧ Aside0 (i ≤ l.length ∧ l.length - i ≤ g) ∧ Aside0 (Set59 wr (w.heap.size + 1) i (inV (foldV (l.take i)).1)) ∧ Aside0 (Kd.R (Kd.int .u64) 22 wr w.heap.size (fun _ => True) v6 (foldV (l.take i)).2) ∧ Aside0 (wr.heap[w.heap.size]? = some (.cells #[.slice A0 vs.length c0, .slice A1 n1 c1] 35 (0, 0))) ∧ Aside0 (Below w.heap.size w wr))
  case atStart => exact ⟨0, rfl, ⟨by omega⟩, N1, ⟨Kd.R_nil _ _ _ _ _⟩, N0, N2⟩
  case round =>
    clear N0 N1 N2
    obtain ⟨i, rfl, HI, HM, HY, HT, HB⟩ := hrel
    by_cases hlt : (i : Int) < l.length
    · have hltb := decide_eq_true hlt
      have hil : i < l.length := by omega
      obtain ⟨ad, had, f0, f1⟩ := at_T46 HR2.out (i : Int) (by omega) hlt
      cases had
      simp only [Int.toNat_natCast] at f0 f1
      replace f0 := (HB.out.cell (World.block_lt_of_cell? w _ f0)).trans f0
      replace f1 := (HB.out.cell (World.block_lt_of_cell? w _ f1)).trans f1
      have hfn := foldV_next l i hil
      rw [← rdV_at l i hil] at hfn
      obtain ⟨x, hx⟩ : ∃ x, rd_T46 l (i : Int) = x := ⟨_, rfl⟩
      have HOKX := Aside0.mk (show okU x.f0 from HOK2.out x (by rw [← hx, rdV_at l i hil]; exact List.getElem_mem _))
      rw [hx] at f0 f1 hfn
      have HFN := Aside0.mk hfn
      clear hx hfn
      obtain ⟨x0, x1⟩ := x
      dsimp only at f0 f1 HOKX
      cases x1 with
      | true =>
        cases hA : inV (foldV (l.take i)).1 ⟨x0, false⟩ with
        | true =>
          have HA := Aside0.mk hA
          clear hA
          go_wp2_with (refine wpList_store2 rfl 46 (.tmp 8) (.tmp 18) rfl rfl wr.heap.size rfl _ _ rfl _ _ 46 (blk_new wr _) (by kernel_rfl) rfl ?_; intro w2 hn hbel; have hb2 := hbel _ _ (Nat.le_refl _) (below_alloc (Below.refl wr.heap.size wr) _); have HM2 := Aside0.mk (MapB.below HM.out hb2); have HY2 := Aside0.mk (Kd.R_below HY.out hb2); have HT2 := Aside0.mk (blk_below HT.out hb2); have HB2 := Aside0.mk (below_call HB.out hb2); have HN2 := Aside0.mk hn; have d0 := blk_cell hn 0; have d1 := blk_cell hn 1; have zl := blk_lt hn; clear hn hbel hb2 f0 f1; have hl1 := look59 HM2.out x0 false HOKX.out; have hl2 := look59 HM2.out x0 true HOKX.out; rw [HA.out] at hl1)
          go_roundg (gk - 1)
          case measure => have := HI.out; omega
          case rel => exact ⟨i + 1, by go_num, ⟨by have := HI.out; omega⟩, ⟨by rw [HFN.out]; unfold stepV; rw [if_pos (by exact HA.out)]; exact MapB.mono HM2.out (by omega)⟩, ⟨by rw [HFN.out]; unfold stepV; rw [if_pos (by exact HA.out)]; exact HY2.out⟩, HT2, HB2⟩
        | false =>
          have HA := Aside0.mk hA
          clear hA
          cases hD : inV (foldV (l.take i)).1 ⟨x0, true⟩ with
          | true =>
            have HD := Aside0.mk hD
            clear hD
            go_wp2_with (refine wpList_store2 rfl 46 (.tmp 8) (.tmp 18) rfl rfl wr.heap.size rfl _ _ rfl _ _ 46 (blk_new wr _) (by kernel_rfl) rfl ?_; intro w2 hn hbel; have hb2 := hbel _ _ (Nat.le_refl _) (below_alloc (Below.refl wr.heap.size wr) _); have HM2 := Aside0.mk (MapB.below HM.out hb2); have HY2 := Aside0.mk (Kd.R_below HY.out hb2); have HT2 := Aside0.mk (blk_below HT.out hb2); have HB2 := Aside0.mk (below_call HB.out hb2); have HN2 := Aside0.mk hn; have d0 := blk_cell hn 0; have d1 := blk_cell hn 1; have zl := blk_lt hn; clear hn hbel hb2 f0 f1; have hl1 := look59 HM2.out x0 false HOKX.out; have hl2 := look59 HM2.out x0 true HOKX.out; rw [HA.out] at hl1; rw [HD.out] at hl2)
            go_roundg (gk - 1)
            case measure => have := HI.out; omega
            case rel => exact ⟨i + 1, by go_num, ⟨by have := HI.out; omega⟩, ⟨by rw [HFN.out]; unfold stepV; rw [if_neg (by rw [show inV (foldV (l.take i)).1 ⟨x0, !true⟩ = false from HA.out]; decide), if_pos (by exact HD.out)]; exact MapB.mono HM2.out (by omega)⟩, ⟨by rw [HFN.out]; unfold stepV; rw [if_neg (by rw [show inV (foldV (l.take i)).1 ⟨x0, !true⟩ = false from HA.out]; decide), if_pos (by exact HD.out)]; exact HY2.out⟩, HT2, HB2⟩
          | false =>
            have HD := Aside0.mk hD
            clear hD
            go_wp2_with (first | (refine wpList_store2 rfl 46 (.tmp 8) (.tmp 18) rfl rfl wr.heap.size rfl _ _ rfl _ _ 46 (blk_new wr _) (by kernel_rfl) rfl ?_; intro w2 hn hbel; have hb2 := hbel _ _ (Nat.le_refl _) (below_alloc (Below.refl wr.heap.size wr) _); have HM2 := Aside0.mk (MapB.below HM.out hb2); have HY2 := Aside0.mk (Kd.R_below HY.out hb2); have HT2 := Aside0.mk (blk_below HT.out hb2); have HB2 := Aside0.mk (below_call HB.out hb2); have HN2 := Aside0.mk hn; have d0 := blk_cell hn 0; have d1 := blk_cell hn 1; have zl := blk_lt hn; clear hn hbel hb2 f0 f1; have hl1 := look59 HM2.out x0 false HOKX.out; have hl2 := look59 HM2.out x0 true HOKX.out; rw [HA.out] at hl1; rw [HD.out] at hl2) | (at_mapUpdate; obtain ⟨kl, hkl⟩ := key46 ⟨x0, true⟩ HOKX.out; refine wpList_mapUpdate_B _ rfl _ _ _ 59 rfl 46 4 keyed46 (fun x y _ _ h => enc46_inj x y h) Try.underlying59 Try.underlying4 (w.heap.size + 1) i rfl HM2.out ?hn ⟨x0, true⟩ HOKX.out kl rfl true rfl hkl ?_; (case hn => (unfold maxLen; omega)); intro w3 hm3 hg3; have HM3 := Aside0.mk hm3; have HY3 := Aside0.mk (R_map HY2.out (MapB.obj HM2.out) hg3); have HT3 := Aside0.mk (blk_grown HT2.out hg3 (fun e => by have := Option.some.inj e; omega)); have HB3 := Aside0.mk (Below.grown HB2.out hg3 HB2.out.size (fun k hk => by cases hk; omega)); have hn3 := blk_grown HN2.out hg3 (fun e => by have h1_ := Option.some.inj e; have h2_ := MapB.lt HM.out; omega); clear hm3 hg3 hkl d0 d1 zl hl1 hl2 HM2 HY2 HT2 HB2 HN2; have d0 := blk_cell hn3 0; have d1 := blk_cell hn3 1; have zl := blk_lt hn3; clear hn3) | (at_builtin; refine Kd.R_append (Kd.int .u64) (w0 := w) w.heap.size rfl (.tmp 36) (.tmp 39) 33 22 (.int .u64 0) 8 rfl Try.underlying33 info22 rfl (by decide) (by omega) _ (foldV (l.take i)).2 x0 [.int .u64 x0] (fun _ => True) (fun _ => False) rfl rfl rfl (fun _ h => h.elim) (fun _ _ => trivial) HY3.out HB3.out HB3.out.size ?hl ?_; (case hl => (have h1_ := foldV_len (l.take i); rw [List.length_take] at h1_; omega)); intro v1 w4 ho hb4 hg4 hat; have HY4 := Aside0.mk ho; have HM4 := Aside0.mk (MapB.over HM3.out HY3.out hg4); have HT4 := Aside0.mk (blk_grown HT3.out hg4 (Kd.R_ne HY3.out HT3.out (by decide))); have HB4 := Aside0.mk hb4; clear ho hb4 hg4 hat HY3 HM3 HT3 HB3 d0 d1 zl))
            go_roundg (gk - 1)
            case measure => have := HI.out; omega
            case rel => exact ⟨i + 1, by go_num, ⟨by have := HI.out; omega⟩, ⟨by rw [HFN.out]; unfold stepV; rw [if_neg (by rw [show inV (foldV (l.take i)).1 ⟨x0, !true⟩ = false from HA.out]; decide), if_neg (by rw [show inV (foldV (l.take i)).1 ⟨x0, true⟩ = false from HD.out]; decide)]; have h := HM4.out; rw [inV_snoc] at h; exact h⟩, ⟨by rw [HFN.out]; unfold stepV; rw [if_neg (by rw [show inV (foldV (l.take i)).1 ⟨x0, !true⟩ = false from HA.out]; decide), if_neg (by rw [show inV (foldV (l.take i)).1 ⟨x0, true⟩ = false from HD.out]; decide)]; exact HY4.out⟩, HT4, HB4⟩
      | false =>
        cases hA : inV (foldV (l.take i)).1 ⟨x0, true⟩ with
        | true =>
          have HA := Aside0.mk hA
          clear hA
          go_wp2_with (refine wpList_store2 rfl 46 (.tmp 8) (.tmp 18) rfl rfl wr.heap.size rfl _ _ rfl _ _ 46 (blk_new wr _) (by kernel_rfl) rfl ?_; intro w2 hn hbel; have hb2 := hbel _ _ (Nat.le_refl _) (below_alloc (Below.refl wr.heap.size wr) _); have HM2 := Aside0.mk (MapB.below HM.out hb2); have HY2 := Aside0.mk (Kd.R_below HY.out hb2); have HT2 := Aside0.mk (blk_below HT.out hb2); have HB2 := Aside0.mk (below_call HB.out hb2); have HN2 := Aside0.mk hn; have d0 := blk_cell hn 0; have d1 := blk_cell hn 1; have zl := blk_lt hn; clear hn hbel hb2 f0 f1; have hl1 := look59 HM2.out x0 true HOKX.out; have hl2 := look59 HM2.out x0 false HOKX.out; rw [HA.out] at hl1)
          go_roundg (gk - 1)
          case measure => have := HI.out; omega
          case rel => exact ⟨i + 1, by go_num, ⟨by have := HI.out; omega⟩, ⟨by rw [HFN.out]; unfold stepV; rw [if_pos (by exact HA.out)]; exact MapB.mono HM2.out (by omega)⟩, ⟨by rw [HFN.out]; unfold stepV; rw [if_pos (by exact HA.out)]; exact HY2.out⟩, HT2, HB2⟩
        | false =>
          have HA := Aside0.mk hA
          clear hA
          cases hD : inV (foldV (l.take i)).1 ⟨x0, false⟩ with
          | true =>
            have HD := Aside0.mk hD
            clear hD
            go_wp2_with (refine wpList_store2 rfl 46 (.tmp 8) (.tmp 18) rfl rfl wr.heap.size rfl _ _ rfl _ _ 46 (blk_new wr _) (by kernel_rfl) rfl ?_; intro w2 hn hbel; have hb2 := hbel _ _ (Nat.le_refl _) (below_alloc (Below.refl wr.heap.size wr) _); have HM2 := Aside0.mk (MapB.below HM.out hb2); have HY2 := Aside0.mk (Kd.R_below HY.out hb2); have HT2 := Aside0.mk (blk_below HT.out hb2); have HB2 := Aside0.mk (below_call HB.out hb2); have HN2 := Aside0.mk hn; have d0 := blk_cell hn 0; have d1 := blk_cell hn 1; have zl := blk_lt hn; clear hn hbel hb2 f0 f1; have hl1 := look59 HM2.out x0 true HOKX.out; have hl2 := look59 HM2.out x0 false HOKX.out; rw [HA.out] at hl1; rw [HD.out] at hl2)
            go_roundg (gk - 1)
            case measure => have := HI.out; omega
            case rel => exact ⟨i + 1, by go_num, ⟨by have := HI.out; omega⟩, ⟨by rw [HFN.out]; unfold stepV; rw [if_neg (by rw [show inV (foldV (l.take i)).1 ⟨x0, !false⟩ = false from HA.out]; decide), if_pos (by exact HD.out)]; exact MapB.mono HM2.out (by omega)⟩, ⟨by rw [HFN.out]; unfold stepV; rw [if_neg (by rw [show inV (foldV (l.take i)).1 ⟨x0, !false⟩ = false from HA.out]; decide), if_pos (by exact HD.out)]; exact HY2.out⟩, HT2, HB2⟩
          | false =>
            have HD := Aside0.mk hD
            clear hD
            go_wp2_with (first | (refine wpList_store2 rfl 46 (.tmp 8) (.tmp 18) rfl rfl wr.heap.size rfl _ _ rfl _ _ 46 (blk_new wr _) (by kernel_rfl) rfl ?_; intro w2 hn hbel; have hb2 := hbel _ _ (Nat.le_refl _) (below_alloc (Below.refl wr.heap.size wr) _); have HM2 := Aside0.mk (MapB.below HM.out hb2); have HY2 := Aside0.mk (Kd.R_below HY.out hb2); have HT2 := Aside0.mk (blk_below HT.out hb2); have HB2 := Aside0.mk (below_call HB.out hb2); have HN2 := Aside0.mk hn; have d0 := blk_cell hn 0; have d1 := blk_cell hn 1; have zl := blk_lt hn; clear hn hbel hb2 f0 f1; have hl1 := look59 HM2.out x0 true HOKX.out; have hl2 := look59 HM2.out x0 false HOKX.out; rw [HA.out] at hl1; rw [HD.out] at hl2) | (at_mapUpdate; obtain ⟨kl, hkl⟩ := key46 ⟨x0, false⟩ HOKX.out; refine wpList_mapUpdate_B _ rfl _ _ _ 59 rfl 46 4 keyed46 (fun x y _ _ h => enc46_inj x y h) Try.underlying59 Try.underlying4 (w.heap.size + 1) i rfl HM2.out ?hn ⟨x0, false⟩ HOKX.out kl rfl true rfl hkl ?_; (case hn => (unfold maxLen; omega)); intro w3 hm3 hg3; have HM3 := Aside0.mk hm3; have HY3 := Aside0.mk (R_map HY2.out (MapB.obj HM2.out) hg3); have HT3 := Aside0.mk (blk_grown HT2.out hg3 (fun e => by have := Option.some.inj e; omega)); have HB3 := Aside0.mk (Below.grown HB2.out hg3 HB2.out.size (fun k hk => by cases hk; omega)); have hn3 := blk_grown HN2.out hg3 (fun e => by have h1_ := Option.some.inj e; have h2_ := MapB.lt HM.out; omega); clear hm3 hg3 hkl d0 d1 zl hl1 hl2 HM2 HY2 HT2 HB2 HN2; have d0 := blk_cell hn3 0; have d1 := blk_cell hn3 1; have zl := blk_lt hn3; clear hn3))
            go_roundg (gk - 1)
            case measure => have := HI.out; omega
            case rel => exact ⟨i + 1, by go_num, ⟨by have := HI.out; omega⟩, ⟨by rw [HFN.out]; unfold stepV; rw [if_neg (by rw [show inV (foldV (l.take i)).1 ⟨x0, !false⟩ = false from HA.out]; decide), if_neg (by rw [show inV (foldV (l.take i)).1 ⟨x0, false⟩ = false from HD.out]; decide)]; have h := HM3.out; rw [inV_snoc] at h; exact h⟩, ⟨by rw [HFN.out]; unfold stepV; rw [if_neg (by rw [show inV (foldV (l.take i)).1 ⟨x0, !false⟩ = false from HA.out]; decide), if_neg (by rw [show inV (foldV (l.take i)).1 ⟨x0, false⟩ = false from HD.out]; decide)]; exact HY3.out⟩, HT3, HB3⟩
    · have hltb := decide_eq_false hlt
      have hie : i = l.length := by have := HI.out; omega
      have hm1 := HM.out
      have hy1 := HY.out
      rw [hie, List.take_length] at hm1 hy1
      have HM1 := Aside0.mk hm1
      have HY1 := Aside0.mk hy1
      have HT1 := Aside0.mk HT.out
      have HB1 := Aside0.mk HB.out
      have c0_ := blk_cell HT.out 0
      clear HM HT HB HY hm1 hy1
      obtain ⟨A6, c6, hv6, hc6, hC6⟩ := Kd.R_reads HY1.out
      subst hv6
      have HC6 := Aside0.mk hC6
      clear hC6
      go_wp2_with fail
      obtain ⟨wa, rfl⟩ : ∃ wo : World, wo = wr := ⟨_, rfl⟩
      clear hltb hlt c0_
      go_loopg [9, 11, 45] vs.length (fun g v9 v11 v45 ws => ∃ (j m : Nat), v45 = .int .i64 (j : Int) ∧ v9 = .int .i64 (m : Int) ∧ ws = wa ∧ Aside0 (j ≤ vs.length ∧ vs.length - j ≤ g ∧ m ≤ j) ∧ Aside0 (leftN vs (inV (foldV l).1) = m + leftN (vs.drop j) (inV (foldV l).1)))
      case atStart => exact ⟨0, 0, rfl, rfl, rfl, ⟨by omega⟩, ⟨by rw [List.drop_zero, Nat.zero_add]⟩⟩
      case round =>
        obtain ⟨j, m, rfl, rfl, rfl, HJ, HC⟩ := hrel
        by_cases hlt : (j : Int) < vs.length
        · have hltb := decide_eq_true hlt
          have hil : j < vs.length := by omega
          obtain ⟨ad, had, f0⟩ := Kd.at_int HR0.out (j : Int) (by omega) hlt
          cases had
          simp only [Int.toNat_natCast] at f0
          replace f0 := (HB1.out.cell (World.block_lt_of_cell? w _ f0)).trans f0
          obtain ⟨x, hx⟩ : ∃ x, rd vs (j : Int) = x := ⟨_, rfl⟩
          have HOKX := Aside0.mk (HOK0.out x (by rw [← hx, rdI_at vs j hil]; exact List.getElem_mem _))
          rw [hx] at f0
          have hc := HC.out
          rw [List.drop_eq_getElem_cons hil, ← rdI_at vs j hil, hx, leftN_cons] at hc
          clear hx HC
          have hlk := look59 HM1.out x false HOKX.out
          cases hS : inV (foldV l).1 ⟨x, false⟩ with
          | true =>
            rw [hS] at hlk hc
            rw [if_pos rfl] at hc
            have HC := Aside0.mk hc
            clear hc hS
            go_wp2_with fail
            go_roundg (gk - 1)
            case measure => have := HJ.out; omega
            case rel => exact ⟨j + 1, m, by go_num, rfl, rfl, ⟨by have := HJ.out; omega⟩, HC⟩
          | false =>
            rw [hS] at hlk hc
            rw [if_neg (by decide)] at hc
            have HC := Aside0.mk hc
            clear hc hS
            go_wp2_with fail
            go_roundg (gk - 1)
            case measure => have := HJ.out; omega
            case rel => exact ⟨j + 1, m + 1, by go_num, by rw [show wrap64 ((m : Int) + 1) = ((m + 1 : Nat) : Int) from by have := HJ.out; simp [wrap64]; omega], rfl, ⟨by have := HJ.out; omega⟩, ⟨by have := HC.out; omega⟩⟩
        · have hltb := decide_eq_false hlt
          have hje : j = vs.length := by have := HJ.out; omega
          have hc := HC.out
          rw [hje, List.drop_length] at hc
          have hc2 : (leftN vs (inV (foldV l).1) : Int) = (m : Int) := by rw [hc]; rfl
          have HC2 := Aside0.mk hc2
          have HM6 := Aside0.mk (group_Most.calls A0 c0 vs A1 n1 c1 A6 c6 (foldV l).2 _ (Kd.C_below HR0.out HB1.out) HC6.out HOK0.out (foldV_ok okU l HOK2.out))
          have c0_ := blk_cell HT1.out 0
          have c1_ := blk_cell HT1.out 1
          clear hc hc2 HC
          by_cases hm : (cntN vs (inL (foldV l).2) : Int) ≥ needI vs.length
          · have hmb := decide_eq_true hm
            have HV : Aside0 (countV vs l = 1) := ⟨by unfold countV; rw [if_pos hm]⟩
            clear hm
            go_wp2_with (go_at_call 25; refine HM6.out.mono ?_; rintro e w1 ⟨rfl, hb⟩; have HB2 := Aside0.mk (below_call HB1.out hb); clear hb)
            go_ret
            exact ⟨by rw [HV.out]; rfl, HB2.out⟩
          · have hmb := decide_eq_false hm
            by_cases hn : (m : Int) < needI vs.length
            · have hnb := decide_eq_true hn
              have HV : Aside0 (countV vs l = 2) := ⟨by unfold countV; rw [if_neg hm, HC2.out, if_pos hn]⟩
              clear hm hn
              go_wp2_with (first | (go_at_call 25; refine HM6.out.mono ?_; rintro e w1 ⟨rfl, hb⟩; have HB2 := Aside0.mk (below_call HB1.out hb); have hT2 := blk_below HT1.out hb; clear hb c0_ c1_; have c0_ := blk_cell hT2 0; have c1_ := blk_cell hT2 1; clear hT2) | (go_at_call 26; refine (need_calls A1 n1 c1 A0 vs.length c0 _).mono ?_; rintro e w2 ⟨rfl, hb⟩; have HB3 := Aside0.mk (below_call HB2.out hb); clear hb))
              go_ret
              exact ⟨by rw [HV.out]; rfl, HB3.out⟩
            · have hnb := decide_eq_false hn
              have HV : Aside0 (countV vs l = 0) := ⟨by unfold countV; rw [if_neg hm, HC2.out, if_neg hn]⟩
              clear hm hn
              go_wp2_with (first | (go_at_call 25; refine HM6.out.mono ?_; rintro e w1 ⟨rfl, hb⟩; have HB2 := Aside0.mk (below_call HB1.out hb); have hT2 := blk_below HT1.out hb; clear hb c0_ c1_; have c0_ := blk_cell hT2 0; have c1_ := blk_cell hT2 1; clear hT2) | (go_at_call 26; refine (need_calls A1 n1 c1 A0 vs.length c0 _).mono ?_; rintro e w2 ⟨rfl, hb⟩; have HB3 := Aside0.mk (below_call HB2.out hb); clear hb))
              go_ret
              exact ⟨by rw [HV.out]; rfl, HB3.out⟩
end Go.Proofs.Ytbjeoaklpcbocaa.Pr
