/- lock.Ask: what it computes, and that it does. Conditions: none. -/
import Derived.Test.YtgmflfbhifdacaaHandFn
import Derived.Carry
namespace Go.Proofs.Ytgmflfbhifdacaa.Pr
open Go.RowKit Go.Proofs.YtgmflfbhifdacaaW.PrintWords Go.Proofs.YtgmflfbhifdacaaW.PrintLast Go.Proofs.YtgmflfbhifdacaaW.PrintMore
open Go.Proofs.Ytgmflfbhifdacaa.Hnd
attribute [local go_sem] setCell_drewN_ alloc_drewN_
set_option linter.unusedVariables false
set_option linter.unusedSimpArgs false
/-- What the program's table says of the type Tx. -/
theorem info25a : (Try.prog.info? 25).map (fun i => (i.zero, i.size, i.bytes)) = some (some (.agg #[(.int .u64 0), (.int .u64 0)]), 2, 16) := by kernel_rfl
/-- Is a transaction in a list? -/
def inB (l : List S25) (x : S25) : Bool := l.any fun y => decide (y = x)
theorem inB_snoc (l : List S25) (y : S25) : (fun z => if z = y then true else inB l z) = inB (l ++ [y]) := by
  funext z
  unfold inB
  rw [List.any_append]
  by_cases h : z = y
  · subst h
    simp
  · rw [if_neg h]
    have : decide (y = z) = false := decide_eq_false (fun e => h e.symm)
    simp [this]
/-- Who must give way; none: somebody stands. -/
def scanB (t : S25) (key : ByteArray) (write : Bool) (firm : List S25) : List S40 → List S25 → Option (List S25)
  | [], out => some out
  | h :: r, out => if wayB h t key write = true then (if inB firm h.f1 || !(elderB t h.f1) then none else scanB t key write firm r (if inB out h.f1 then out else out ++ [h.f1])) else scanB t key write firm r out
def okT (x : S25) : Bool := (Lit.int .u64 x.f0).wf && (Lit.int .u64 x.f1).wf
theorem okT_tx {x : S25} (h : okT x = true) : okTx x := by simpa [okT, okTx] using h
def hasI (l : List S40) (t : S25) (key : ByteArray) (write : Bool) : Bool := decide (0 ≤ ofI t key l) && ((rd_T40 l (ofI t key l)).f2 || !write)
def askM (l m : List S40) (t : S25) (key : ByteArray) (write : Bool) (out : List S25) : List S40 × List S25 × Int :=
  if 0 ≤ ofI t key m then (m.set (ofI t key m).toNat ⟨(rd_T40 m (ofI t key m)).f0, (rd_T40 m (ofI t key m)).f1, true⟩, out, 0)
  else if 48 ≤ m.length then (l, [], 5)
  else (m ++ [⟨key, t, write⟩], out, 0)
def askE (l : List S40) (t : S25) (key : ByteArray) (write : Bool) (out : List S25) : List S40 × List S25 × Int := askM l (keepB (fun x => inB out x.f1) l) t key write out
def askI (l : List S40) (t : S25) (key : ByteArray) (write : Bool) (firm : List S25) : List S40 × List S25 × Int :=
  if hasI l t key write = true then (l, [], 0) else
  match scanB t key write firm l [] with
  | none => (l, [], 11)
  | some out => askE l t key write out
theorem askI_eq (l : List S40) (t : S25) (key : ByteArray) (write : Bool) (firm : List S25) (h : hasI l t key write = false) : askI l t key write firm = match scanB t key write firm l [] with
  | none => (l, [], 11)
  | some out => askE l t key write out := by
  unfold askI
  rw [if_neg (by rw [h]; decide)]
def lock_Ask.f (l0 : List S40) (a1_0 a1_1 : Int) (a2 : ByteArray) (a3 : Bool) (l4 : List S25) : Option (List S40 × List S25 × Int) :=
  if l0.length < 3518437208883 ∧ l0.all (fun x => okT x.f1) = true ∧ l4.all okT = true then some (askI l0 ⟨a1_0, a1_1⟩ a2 a3 l4) else none
theorem ofI_lt (t : S25) (key : ByteArray) (l : List S40) : ofI t key l < l.length := by
  unfold ofI
  rcases idxN_spec (p := p34 t key) l 0 with ⟨e, _⟩ | ⟨k, hk, e, _⟩ <;> rw [e] <;> omega
theorem scanB_at (t : S25) (key : ByteArray) (write : Bool) (firm : List S25) (l : List S40) (i : Nat) (h : i < l.length) (out : List S25) : scanB t key write firm (l.drop i) out = (if wayB (rd_T40 l (i : Int)) t key write = true then (if inB firm (rd_T40 l (i : Int)).f1 || !(elderB t (rd_T40 l (i : Int)).f1) then none else scanB t key write firm (l.drop (i + 1)) (if inB out (rd_T40 l (i : Int)).f1 then out else out ++ [(rd_T40 l (i : Int)).f1])) else scanB t key write firm (l.drop (i + 1)) out) := by
  rw [List.drop_eq_getElem_cons h, rd_at l i h]
  rfl
theorem rd_at25 (l : List S25) (i : Nat) (h : i < l.length) : rd_T25 l (i : Int) = l[i] := by simp [rd_T25, List.getD_eq_getElem?_getD, h]
theorem inB_next (l : List S25) (i : Nat) (h : i < l.length) : (fun z => if z = rd_T25 l (i : Int) then true else inB (l.take i) z) = inB (l.take (i + 1)) := by
  rw [List.take_succ_eq_append_getElem h, rd_at25 l i h]
  exact inB_snoc _ _
/-- slices.DeleteFunc at Ask's closure, whatever row of the call's own. -/
theorem del27_any (v : Value) (l : List S40) (p : S40 → Bool) (b0 : Nat) (J : World → Prop) (base : Nat) (w : World) (hr : Kd.R k40 40 w base (fun _ => True) v l) (hJ : J w)
    (HJ : ∀ W W' : World, J W → Below W.heap.size W W' → J W') (HG : ∀ (W W' : World) (g : Nat), base ≤ g → J W → W.grownBy W' (some g) → J W') (HP : ∀ (x : S40) (W : World), x ∈ l → J W → Calls Try.prog 27 #[.agg #[.string x.f0, .int .u64 x.f1.f0, .int .u64 x.f1.f1, .bool x.f2], .pointer (some ⟨b0, 0, none⟩)] W fun e w' => e = .returned (.bool (p x)) ∧ Below W.heap.size W w') :
    Calls Try.prog 26 #[v, .func (.func 27) #[] #[.pointer (some ⟨b0, 0, none⟩)]] w fun e w' => ∃ v', e = .returned v' ∧ Kd.R k40 40 w' base (fun _ => True) v' (keepB p l) ∧ (∃ row, w.grownBy w' row ∧ ∀ g, row = some g → base ≤ g) ∧ J w' := by
  by_cases hn : 0 < l.length
  · obtain ⟨g, cap, rfl, hg1, hg2, _⟩ := Kd.R_form hr hn
    refine (del_27 g cap l p b0 J base (fun _ => True) w hr hJ HJ (fun W W' h1 h2 => HG W W' g hg1 h1 h2) HP).mono ?_
    rintro e w' ⟨v', rfl, _, ho, hg, hj⟩
    exact ⟨v', rfl, ho, ⟨some g, hg, fun k hk => by cases hk; exact hg1⟩, hj⟩
  · have h0 : l = [] := List.eq_nil_of_length_eq_zero (by omega)
    subst h0
    obtain ⟨A, c, rfl⟩ := Kd.R_slice hr
    refine (del0_27 A c b0 w).mono ?_
    rintro e w' ⟨rfl, hb⟩
    exact ⟨_, rfl, Kd.R_below hr hb, ⟨none, grown_of_below hb _, fun g hg => by cases hg⟩, HJ _ _ hJ hb⟩
/-- What stands between the rounds. -/
structure Bund (w : World) (M1 M2 n1 n2 : Nat) (t : S25) (l4 outS out : List S25) (v : Value) (ws : World) : Prop where
  s1 : Set54 ws M1 n1 (inB l4)
  s2 : Set54 ws M2 n2 (inB outS)
  kv : ws.heap[M2 + 1]? = some (.cells #[.map (some M2)] 54 (0, 0))
  kt : ws.heap[w.heap.size]? = some (.cells #[.int .u64 t.f0, .int .u64 t.f1] 25 (0, 0))
  ro : Kd.R k25 25 ws (w.heap.size + 1) (fun _ => True) v out
  bel : Below w.heap.size w ws
  ne : M1 ≠ M2
  lo : w.heap.size ≤ M2
section
variable {w ws ws' : World} {M1 M2 n1 n2 : Nat} {t : S25} {l4 outS out : List S25} {v v1 : Value}
theorem Bund.below (h : Bund w M1 M2 n1 n2 t l4 outS out v ws) (hb : Below ws.heap.size ws ws') : Bund w M1 M2 n1 n2 t l4 outS out v ws' :=
  ⟨MapB.below h.s1 hb, MapB.below h.s2 hb, blk_below h.kv hb, blk_below h.kt hb, Kd.R_below h.ro hb, below_call h.bel hb, h.ne, h.lo⟩
theorem Bund.more (h : Bund w M1 M2 n1 n2 t l4 outS out v ws) {n : Nat} (hn : n2 ≤ n) : Bund w M1 M2 n1 n t l4 outS out v ws := ⟨h.s1, MapB.mono h.s2 hn, h.kv, h.kt, h.ro, h.bel, h.ne, h.lo⟩
theorem Bund.mark (h : Bund w M1 M2 n1 n2 t l4 outS out v ws) {x : S25} (hm : Set54 ws' M2 (n2 + 1) (fun z => if z = x then true else inB outS z)) (hg : ws.grownBy ws' (some M2)) : Bund w M1 M2 n1 (n2 + 1) t l4 (outS ++ [x]) out v ws' :=
  ⟨MapB.other h.s1 h.ne hg, (inB_snoc outS x) ▸ hm, blk_grown h.kv hg (by simp), blk_grown h.kt hg (fun e => by
    obtain ⟨es, c, ho⟩ := MapB.obj h.s2
    rw [← Option.some.inj e, h.kt] at ho
    cases ho), R_map h.ro (MapB.obj h.s2) hg, Below.grown h.bel hg h.bel.size (fun k hk => by cases hk; exact h.lo), h.ne, h.lo⟩
theorem Bund.append (h : Bund w M1 M2 n1 n2 t l4 outS out v ws) {ys : List S25} (ho : Kd.R k25 25 ws' (w.heap.size + 1) (fun _ => True) v1 ys) (hg : ws.grownBy ws' v.ownBlock) : Bund w M1 M2 n1 n2 t l4 outS ys v1 ws' :=
  ⟨MapB.over h.s1 h.ro hg, MapB.over h.s2 h.ro hg, blk_grown h.kv hg (Kd.R_ne h.ro h.kv (by decide)), blk_grown h.kt hg (fun e => by have := Kd.R_base h.ro _ e.symm; omega), ho, Below.grown h.bel hg h.bel.size (fun k hk => by have := Kd.R_base h.ro k hk; omega), h.ne, h.lo⟩
theorem Bund.far (h : Bund w M1 M2 n1 n2 t l4 outS out v ws) {row : Option Nat} (hg : ws.grownBy ws' row) (hr : ∀ g, row = some g → ws.heap.size ≤ g) : Bund w M1 M2 n1 n2 t l4 outS out v ws' :=
  ⟨MapB.kept h.s1 hg (fun e => by have := hr _ e.symm; have := MapB.lt h.s1; omega), MapB.kept h.s2 hg (fun e => by have := hr _ e.symm; have := MapB.lt h.s2; omega), blk_grown h.kv hg (fun e => by have := hr _ e.symm; have := blk_lt h.kv; omega), blk_grown h.kt hg (fun e => by have := hr _ e.symm; have := blk_lt h.kt; omega),
   Kd.R_mono (Kd.R_grown (Kd.R_bound h.ro) hg (fun k hk e => by have := hr _ e.symm; have := hk.2.2.1; omega)) (fun _ _ => trivial), Below.grown h.bel hg h.bel.size (fun g hk => Nat.le_trans h.bel.size (hr g hk)), h.ne, h.lo⟩
end
def AskPost (w : World) (r : List S40 × List S25 × Int) (e : Ending) (w' : World) : Prop :=
  ∃ v0_ v1_ : Value, e = .returned (.tuple #[v0_, v1_, .int .i64 r.2.2]) ∧ Kd.R k40 40 w' w.heap.size (fun _ => True) v0_ r.1 ∧ Kd.R k25 25 w' w.heap.size (fun _ => True) v1_ r.2.1 ∧ Below w.heap.size w w'
set_option maxHeartbeats 8000000 in
set_option maxRecDepth 100000 in
theorem ask_walk (A0 : Option Addr) (c0 : Nat) (l0 : List S40) (t : S25) (a2 : ByteArray) (a3 : Bool) (A4 : Option Addr) (c4 : Nat) (l4 : List S25) (w : World) (hr0 : Kd.C k40 w A0 l0.length l0) (hc0 : l0.length ≤ c0) (hr4 : Kd.C k25 w A4 l4.length l4) (hc4 : l4.length ≤ c4) (hs : l0.length < 3518437208883) (hok : ∀ x ∈ l0, okTx x.f1) (hok4 : ∀ x ∈ l4, okTx x) :
    Calls Try.prog 10 #[.slice A0 l0.length c0, .agg #[.int .u64 t.f0, .int .u64 t.f1], .string a2, .bool a3, .slice A4 l4.length c4] w (AskPost w (askI l0 t a2 a3 l4)) := by
  have HR := Aside0.mk hr0
  have HR4 := Aside0.mk hr4
  have HC := Aside0.mk hc0
  have HC4 := Aside0.mk hc4
  have HS := Aside0.mk hs
  have HOK := Aside0.mk hok
  have HOK4 := Aside0.mk hok4
  have HL : l0.length ≤ 9223372036854775807 := hr0.2.1
  have HL4 : l4.length ≤ 9223372036854775807 := hr4.2.1
  have HCL := Aside0.mk (fun W (hc : Kd.C k40 W A0 l0.length l0) => slices_Clone.calls A0 c0 l0 l0 W hc hc0 (by unfold slices_Clone.f; rw [if_pos hs]))
  have HOF := Aside0.mk (lock_of.calls A0 c0 l0 t.f0 t.f1 a2 (ofI t a2 l0) (w.alloc (.cells #[.int .u64 t.f0, .int .u64 t.f1] 25)) (Kd.C_alloc hr0 _) hc0 rfl)
  have hlt0 := ofI_lt t a2 l0
  clear hr0 hr4 hs hok hok4 hc0 hc4
  have hmm := @run_makeMap Try.prog
  cases hh : hasI l0 t a2 a3 with
  | true =>
    have HA := Aside0.mk (show askI l0 t a2 a3 l4 = (l0, [], 0) by unfold askI; rw [if_pos hh])
    unfold hasI at hh
    simp only [Bool.and_eq_true, decide_eq_true_eq] at hh
    obtain ⟨h1, h2⟩ := hh
    obtain ⟨q, hq⟩ : ∃ q, ofI t a2 l0 = q := ⟨_, rfl⟩
    rw [hq] at HOF h1 h2 hlt0
    clear hq
    obtain ⟨ad, rfl, e0, e1, e2, e3⟩ := at_T40 HR.out q h1 hlt0
    obtain ⟨fq, hfq⟩ : ∃ f, (rd_T40 l0 q).f2 = f := ⟨_, rfl⟩
    rw [hfq] at h2 e3
    clear hfq e0 e1 e2
    rw [HA.out]
    have h1b := decide_eq_true h1
    go_enter Try.func10, Try.ntmps10
    go_wp2_with fail
    refine HOF.out.mono ?_
    rintro e w1 ⟨rfl, hb⟩
    have HB1 := Aside0.mk (below_call (below_alloc (Below.refl w.heap.size w) _) hb)
    have e3' := (HB1.out.cell (World.block_lt_of_cell? w _ e3)).trans e3
    clear hb e3 HOF
    cases fq with
    | true =>
      go_wp2_with (go_at_call 24; refine (HCL.out _ (Kd.C_below HR.out HB1.out)).mono ?_; rintro e w2 ⟨v, rfl, ho, hb⟩; have HO := Aside0.mk (Kd.R_lower ho HB1.out.size); have HB2 := Aside0.mk (below_call HB1.out hb); clear ho hb)
      refine bodyPost_ret (v := .tuple #[v, .slice none 0 0, .int .i64 0]) (by simp [results, Try.results10, go_sem]) rfl ⟨_, _, rfl, HO.out, Kd.R_nil _ _ _ _ _, HB2.out⟩
    | false =>
      cases a3 with
      | true => simp at h2
      | false =>
        go_wp2_with (go_at_call 24; refine (HCL.out _ (Kd.C_below HR.out HB1.out)).mono ?_; rintro e w2 ⟨v, rfl, ho, hb⟩; have HO := Aside0.mk (Kd.R_lower ho HB1.out.size); have HB2 := Aside0.mk (below_call HB1.out hb); clear ho hb)
        refine bodyPost_ret (v := .tuple #[v, .slice none 0 0, .int .i64 0]) (by simp [results, Try.results10, go_sem]) rfl ⟨_, _, rfl, HO.out, Kd.R_nil _ _ _ _ _, HB2.out⟩
  | false =>
    have HA0 := Aside0.mk hh
    unfold hasI at hh
    obtain ⟨q, hq⟩ : ∃ q, ofI t a2 l0 = q := ⟨_, rfl⟩
    rw [hq] at HOF hh hlt0
    clear hq
    go_enter Try.func10, Try.ntmps10
    go_wp2_with fail
    refine HOF.out.mono ?_
    rintro e w1 ⟨rfl, hb⟩
    have HB1 := Aside0.mk (below_call (below_alloc (Below.refl w.heap.size w) _) hb)
    have kt := blk_below (blk_new w (.cells #[.int .u64 t.f0, .int .u64 t.f1] 25)) hb
    have HKT := Aside0.mk kt
    have HZ := Aside0.mk (blk_lt kt)
    have ct := fun o => blk_cell kt o
    have zt := blk_lt kt
    clear hb HOF kt
    by_cases h1 : 0 ≤ q
    · have h1b := decide_eq_true h1
      rw [h1b, Bool.true_and] at hh
      obtain ⟨ad, rfl, e0, e1, e2, e3⟩ := at_T40 HR.out q h1 hlt0
      obtain ⟨fq, hfq⟩ : ∃ f, (rd_T40 l0 q).f2 = f := ⟨_, rfl⟩
      rw [hfq] at hh e3
      clear hfq e0 e1 e2
      have e3' := (HB1.out.cell (World.block_lt_of_cell? w _ e3)).trans e3
      clear e3
      cases fq with
      | true => simp at hh
      | false =>
        cases a3 with
        | false => simp at hh
        | true =>
          clear hh
          have h1c : decide (q ≥ 0) = true := decide_eq_true h1
          go_wp2_with fail
          go_loopg [45] l4.length (fun g v45 wr => ∃ i : Nat, v45 = .int .i64 (i : Int) ∧ Aside0 (i ≤ l4.length ∧ l4.length - i ≤ g) ∧ Aside0 (Set54 wr w1.heap.size i (inB (l4.take i))) ∧ Aside0 (wr.heap[w.heap.size]? = some (.cells #[.int .u64 t.f0, .int .u64 t.f1] 25 (0, 0))) ∧ Aside0 (Below w.heap.size w wr))
          case atStart => exact ⟨0, rfl, ⟨by omega⟩, ⟨MapB.made w1⟩, ⟨blk_alloc HKT.out _⟩, ⟨below_alloc HB1.out _⟩⟩
          case round =>
            clear hmm ct zt
            obtain ⟨i, rfl, HI, HM, HT, HB⟩ := hrel
            by_cases hlt : (i : Int) < l4.length
            · have hltb := decide_eq_true hlt
              have hil : i < l4.length := by omega
              obtain ⟨ad4, had4, f0, f1⟩ := at_T25 HR4.out (i : Int) (by omega) hlt
              cases had4
              simp only [Int.toNat_natCast] at f0 f1
              replace f0 := (HB.out.cell (World.block_lt_of_cell? w _ f0)).trans f0
              replace f1 := (HB.out.cell (World.block_lt_of_cell? w _ f1)).trans f1
              obtain ⟨x, hx⟩ : ∃ x, rd_T25 l4 (i : Int) = x := ⟨_, rfl⟩
              have HX := Aside0.mk hx
              have HOKX := Aside0.mk (HOK4.out x (by rw [← hx, rd_at25 l4 i hil]; exact List.getElem_mem _))
              rw [hx] at f0 f1
              clear hx
              go_wp2_with (first
                | (at_mapUpdate; obtain ⟨kl, hkl⟩ := key25 x HOKX.out; refine wpList_mapUpdate_B _ rfl _ _ _ 54 rfl 25 4 keyed25 (fun x y _ _ h => enc25_inj x y h) Try.underlying54 Try.underlying4 w1.heap.size i rfl (MapB.alloc HM.out _) ?hn x HOKX.out kl rfl true rfl hkl ?_; (case hn => (unfold maxLen; omega)); intro w3 hm3 hg3; have HM3 := Aside0.mk hm3; have HG3 := Aside0.mk hg3; clear hm3 hg3 hkl)
                | fail)
              go_roundg (gk - 1)
              case measure => have := HI.out; omega
              case rel =>
                refine ⟨i + 1, by go_num, ⟨by have := HI.out; omega⟩, ⟨?_⟩, ⟨blk_grown (blk_alloc HT.out _) HG3.out (fun e => by have := Option.some.inj e; have := HZ.out; omega)⟩, ⟨Below.grown (below_alloc HB.out _) HG3.out (below_alloc HB.out _).size (fun k hk => by cases hk; exact HB1.out.size)⟩⟩
                have h := HM3.out
                rw [← HX.out, inB_next l4 i hil] at h
                exact h
            · have hltb := decide_eq_false hlt
              have hie : i = l4.length := by have := HI.out; omega
              have hm1 := HM.out
              rw [hie, List.take_length] at hm1
              have HM1 := Aside0.mk hm1
              have HT1 := Aside0.mk HT.out
              have HMZ := Aside0.mk (MapB.lt hm1)
              clear HM HT hm1
              have hmm := @run_makeMap Try.prog
              go_wp2_with fail
              obtain ⟨wa, rfl⟩ : ∃ wo : World, wo = wr := ⟨_, rfl⟩
              go_loopg [18, 55] l0.length (fun g v18 v55 ws => ∃ (i : Nat) (out : List S25), v55 = .int .i64 (i : Int) ∧ Aside0 (i ≤ l0.length ∧ l0.length - i ≤ g ∧ out.length ≤ i) ∧ Aside0 (scanB t a2 true l4 l0 [] = scanB t a2 true l4 (l0.drop i) out) ∧ Aside0 (Bund w w1.heap.size wa.heap.size l4.length i t l4 out out v18 ws))
              case atStart =>
                exact ⟨0, [], rfl, ⟨Nat.zero_le _, by omega, Nat.zero_le _⟩, ⟨rfl⟩, ⟨⟨MapB.alloc (MapB.alloc (hie ▸ HM1.out) _) _, MapB.alloc (MapB.made wa) _, blk_newAt _ (by simp), blk_alloc (blk_alloc HT1.out _) _, Kd.R_nil _ _ _ _ _, below_alloc (below_alloc HB.out _) _, by have := HMZ.out; omega, HB.out.size⟩⟩⟩
              case round =>
                clear hmm HT1 HM1 HI hltb hlt
                obtain ⟨i, out, rfl, HI, HT, HU⟩ := hrel
                by_cases hlt : (i : Int) < l0.length
                · have hltb := decide_eq_true hlt
                  have hil : i < l0.length := by omega
                  obtain ⟨adx, hadx, f0, f1, f2, f3⟩ := at_T40 HR.out (i : Int) (by omega) hlt
                  cases hadx
                  simp only [Int.toNat_natCast] at f0 f1 f2 f3
                  replace f0 := (HU.out.bel.cell (World.block_lt_of_cell? w _ f0)).trans f0
                  replace f1 := (HU.out.bel.cell (World.block_lt_of_cell? w _ f1)).trans f1
                  replace f2 := (HU.out.bel.cell (World.block_lt_of_cell? w _ f2)).trans f2
                  replace f3 := (HU.out.bel.cell (World.block_lt_of_cell? w _ f3)).trans f3
                  obtain ⟨x, hx⟩ : ∃ x, rd_T40 l0 (i : Int) = x := ⟨_, rfl⟩
                  have HX := Aside0.mk hx
                  have HOKX := Aside0.mk (HOK.out x (hx ▸ rd_mem l0 i hil))
                  have HT2 := Aside0.mk (HT.out.trans (scanB_at t a2 true l4 l0 i hil out))
                  rw [hx] at f0 f1 f2 f3 HT2
                  clear hx HT
                  have ct := fun o => blk_cell HU.out.kt o
                  have zt := blk_lt HU.out.kt
                  go_wp2_with fail
                  refine (lock_inWay.calls x.f0 x.f1.f0 x.f1.f1 x.f2 t.f0 t.f1 a2 true (wayB x t a2 true) _ rfl).mono ?_
                  rintro e w2 ⟨rfl, hb⟩
                  have HU2 := Aside0.mk (HU.out.below (below_call (below_alloc (Below.refl wr.heap.size wr) _) hb))
                  have kx := blk_below (blk_new wr (.cells #[.string x.f0, .int .u64 x.f1.f0, .int .u64 x.f1.f1, .bool x.f2] 40)) hb
                  have KX := Aside0.mk kx
                  clear ct zt f0 f1 f2 f3 hb
                  have ct := fun o => blk_cell HU2.out.kt o
                  have zt := blk_lt HU2.out.kt
                  have cx := fun o => blk_cell kx o
                  have zx := blk_lt kx
                  clear kx
                  cases hw : wayB x t a2 true with
                  | false =>
                    have HW := Aside0.mk hw
                    clear hw
                    go_wp2
                    go_roundg (gk - 1)
                    case measure => have := HI.out; omega
                    case rel => exact ⟨i + 1, out, by go_num, ⟨by have := HI.out; omega⟩, ⟨HT2.out.trans (if_neg (by rw [HW.out]; decide))⟩, ⟨HU2.out.more (by omega)⟩⟩
                  | true =>
                    have HW := Aside0.mk hw
                    clear hw
                    have hl1 := look54 HU2.out.s1 x.f1 HOKX.out
                    cases hin : inB l4 x.f1 with
                    | true =>
                      have HIN := Aside0.mk hin
                      rw [hin] at hl1
                      clear hin
                      have HA := Aside0.mk (show askI l0 t a2 true l4 = (l0, [], 11) by unfold askI; rw [if_neg (by rw [HA0.out]; decide), HT2.out, if_pos HW.out, if_pos (by rw [HIN.out]; rfl)])
                      go_wp2_with (go_at_call 24; refine (HCL.out _ (Kd.C_below HR.out HU2.out.bel)).mono ?_; rintro e w9 ⟨v, rfl, ho9, hb9⟩; have HO := Aside0.mk (Kd.R_lower ho9 HU2.out.bel.size); have HB9 := Aside0.mk (below_call HU2.out.bel hb9); clear ho9 hb9)
                      refine bodyPost_ret (v := .tuple #[v, .slice none 0 0, .int .i64 11]) (by simp [results, Try.results10, go_sem]) rfl ?_
                      show AskPost w (askI l0 t a2 true l4) _ _
                      rw [HA.out]
                      exact ⟨_, _, rfl, HO.out, Kd.R_nil _ _ _ _ _, HB9.out⟩
                    | false =>
                      have HIN := Aside0.mk hin
                      rw [hin] at hl1
                      clear hin
                      go_wp2_with fail
                      refine (lock_Elder.calls t.f0 t.f1 x.f1.f0 x.f1.f1 (elderB t x.f1) _ rfl).mono ?_
                      rintro e w3 ⟨rfl, hb⟩
                      have HU3 := Aside0.mk (HU2.out.below hb)
                      have kx := blk_below KX.out hb
                      have KX3 := Aside0.mk kx
                      clear ct zt cx zx hb hl1
                      have cx := fun o => blk_cell kx o
                      have zx := blk_lt kx
                      clear kx
                      cases he : elderB t x.f1 with
                      | false =>
                        have HE := Aside0.mk he
                        clear he
                        have HA := Aside0.mk (show askI l0 t a2 true l4 = (l0, [], 11) by unfold askI; rw [if_neg (by rw [HA0.out]; decide), HT2.out, if_pos HW.out, if_pos (by rw [HIN.out, HE.out]; rfl)])
                        go_wp2_with (go_at_call 24; refine (HCL.out _ (Kd.C_below HR.out HU3.out.bel)).mono ?_; rintro e w9 ⟨v, rfl, ho9, hb9⟩; have HO := Aside0.mk (Kd.R_lower ho9 HU3.out.bel.size); have HB9 := Aside0.mk (below_call HU3.out.bel hb9); clear ho9 hb9)
                        refine bodyPost_ret (v := .tuple #[v, .slice none 0 0, .int .i64 11]) (by simp [results, Try.results10, go_sem]) rfl ?_
                        show AskPost w (askI l0 t a2 true l4) _ _
                        rw [HA.out]
                        exact ⟨_, _, rfl, HO.out, Kd.R_nil _ _ _ _ _, HB9.out⟩
                      | true =>
                        have HE := Aside0.mk he
                        clear he
                        have HT3 := Aside0.mk (HT2.out.trans ((if_pos HW.out).trans (if_neg (by rw [HIN.out, HE.out]; decide))))
                        have hl2 := look54 HU3.out.s2 x.f1 HOKX.out
                        have cv := fun o => blk_cell HU3.out.kv o
                        have zv := blk_lt HU3.out.kv
                        cases ho : inB out x.f1 with
                        | true =>
                          have HO := Aside0.mk ho
                          rw [ho] at hl2
                          clear ho
                          go_wp2
                          go_roundg (gk - 1)
                          case measure => have := HI.out; omega
                          case rel => exact ⟨i + 1, out, by go_num, ⟨by have := HI.out; omega⟩, ⟨by rw [HT3.out, if_pos HO.out]⟩, ⟨HU3.out.more (by omega)⟩⟩
                        | false =>
                          have HO := Aside0.mk ho
                          rw [ho] at hl2
                          clear ho
                          go_wp2_with (first
                            | (at_mapUpdate; obtain ⟨kl, hkl⟩ := key25 x.f1 HOKX.out; refine wpList_mapUpdate_B _ rfl _ _ _ 54 rfl 25 4 keyed25 (fun x y _ _ h => enc25_inj x y h) Try.underlying54 Try.underlying4 wa.heap.size i rfl HU3.out.s2 ?hn x.f1 HOKX.out kl rfl true rfl hkl ?_; (case hn => (unfold maxLen; omega)); intro w4 hm4 hg4; have HU4 := Aside0.mk (HU3.out.mark hm4 hg4); have kx := blk_grown KX3.out hg4 (fun e => by have := Option.some.inj e; have := MapB.lt HU.out.s2; omega); clear hm4 hg4 hkl cx zx cv zv hl2; have cx := fun o => blk_cell kx o; have zx := blk_lt kx; clear kx)
                            | ((with_reducible refine gate_builtin (b := .append) (xs := #[.tmp 86, .tmp 89]) rfl ?_); at_builtin; refine Kd.R_append k25 (w0 := w4) (w.heap.size + 1) rfl (.tmp 86) (.tmp 89) 28 25 (.agg #[(.int .u64 0), (.int .u64 0)]) 16 rfl Try.underlying28 info25a rfl (by decide) (by omega) _ out x.f1 [.int .u64 x.f1.f0, .int .u64 x.f1.f1] (fun _ => True) (fun _ => False) rfl rfl ?aP (fun _ hk => hk.elim) (fun _ _ => trivial) HU4.out.ro ?aB ?aS ?aL ?_; (case aP => exact k25_mkM _ _ _ x.f1); (case aB => exact Below.refl _ _); (case aS => exact blk_lt HU4.out.kt); (case aL => (have := HI.out; have := HS.out; omega)); intro v1 w5 ho5 hb5 hg5 hat5; have HU5 := Aside0.mk (HU4.out.append ho5 hg5); clear ho5 hb5 hg5 hat5)
                            | fail)
                          go_roundg (gk - 1)
                          case measure => have := HI.out; omega
                          case rel => exact ⟨i + 1, out ++ [x.f1], by go_num, ⟨by have := HI.out; rw [List.length_append]; simp only [List.length_cons, List.length_nil]; omega⟩, ⟨by rw [HT3.out, if_neg (by rw [HO.out]; decide)]⟩, HU5⟩
                · have hltb := decide_eq_false hlt
                  have hie2 : i = l0.length := by have := HI.out; omega
                  have HASK := Aside0.mk (show askI l0 t a2 true l4 = askE l0 t a2 true out by rw [askI_eq _ _ _ _ _ HA0.out, HT.out, hie2, List.drop_length]; rfl)
                  have cv := fun o => blk_cell HU.out.kv o
                  have zv := blk_lt HU.out.kv
                  go_wp2_with fail
                  refine (HCL.out _ (Kd.C_below HR.out HU.out.bel)).mono ?_
                  rintro e w4 ⟨v, rfl, ho4, hb4⟩
                  have HU4 := Aside0.mk (HU.out.below hb4)
                  have HWS := Aside0.mk hb4.size
                  go_wp2_with fail
                  refine (del27_any v l0 (fun x => inB out x.f1) (wa.heap.size + 1) (fun W => W.heap[wa.heap.size + 1]? = some (.cells #[.map (some wa.heap.size)] 54 (0, 0)) ∧ Set54 W wa.heap.size i (inB out)) wr.heap.size w4 ho4 ⟨HU4.out.kv, HU4.out.s2⟩
                    (fun W W' hj hb => ⟨blk_below hj.1 hb, MapB.below hj.2 hb⟩) (fun W W' g hg hj hgr => ⟨blk_grown hj.1 hgr (fun e => by have := Option.some.inj e; omega), MapB.kept hj.2 hgr (fun e => by have := Option.some.inj e; have := MapB.lt HU.out.s2; omega)⟩)
                    (fun x W hx hj => cl27 x (wa.heap.size + 1) wa.heap.size i (inB out) (HOK.out x hx) W hj.1 hj.2)).mono ?_
                  rintro e w5 ⟨v2, rfl, ho5, ⟨row, hg5, hr5⟩, _⟩
                  unfold askE at HASK
                  obtain ⟨m, hm⟩ : ∃ m, keepB (fun x => inB out x.f1) l0 = m := ⟨_, rfl⟩
                  rw [hm] at HASK ho5
                  have HML := Aside0.mk (show m.length ≤ l0.length by rw [← hm]; exact keep_len _ _)
                  clear hm
                  have B5 := Below.grown hb4 hg5 hb4.size hr5
                  have HU5 := HU.out.below B5
                  obtain ⟨A2, c2, rfl⟩ := Kd.R_slice ho5
                  have HO5 := Aside0.mk ho5
                  have HB5 := Aside0.mk B5
                  have HKT5 := Aside0.mk HU5.kt
                  have ct := fun o => blk_cell HKT5.out o
                  have zt := blk_lt HKT5.out
                  clear hb4 hg5 hr5 ho4 HU4 HU5 ho5 B5 cv zv
                  go_wp2_with fail
                  refine (lock_of.calls A2 c2 m t.f0 t.f1 a2 (ofI t a2 m) w5 (Kd.R_reads' HO5.out).2.2 (Kd.R_reads' HO5.out).2.1 rfl).mono ?_
                  rintro e w6 ⟨rfl, hb6⟩
                  have HB6 := Aside0.mk (below_call HB5.out hb6)
                  have HO6 := Aside0.mk (Kd.R_below HO5.out hb6)
                  have HKT6 := Aside0.mk (blk_below HKT5.out hb6)
                  clear ct zt hb6 HB5 HO5 HKT5
                  have ct := fun o => blk_cell HKT6.out o
                  have zt := blk_lt HKT6.out
                  have hjlt := ofI_lt t a2 m
                  unfold askM at HASK
                  obtain ⟨j, hj⟩ : ∃ j, ofI t a2 m = j := ⟨_, rfl⟩
                  rw [hj] at HASK hjlt ⊢
                  clear hj
                  have hwb : w.heap.size ≤ wr.heap.size := HU.out.bel.size
                  by_cases hj0 : 0 ≤ j
                  · have hj0b : decide (j ≥ 0) = true := decide_eq_true hj0
                    have HA := Aside0.mk (HASK.out.trans (if_pos hj0))
                    obtain ⟨g, cap, he, hgb, _⟩ := Kd.R_form HO6.out (by omega)
                    cases he
                    obtain ⟨c, hcl, hM, hcc, hff⟩ := Kd.R_elem HO6.out z40 j hj0 hjlt
                    have e2 : (k40 : Kd S40).sz = 4 := rfl
                    have hMc := k40_openM hM
                    have hcc3 := hcc 3 (.bool (rd_T40 m j).f2) (by rw [hMc]; rfl)
                    have HSEG := Aside0.mk (Kd.R_seg (x' := (⟨(rd_T40 m j).f0, (rd_T40 m j).f1, true⟩ : S40)) (okp := fun _ => False) (seg := [.bool true]) (j := 3) HO6.out j hj0 hjlt hcl hcc (by show 3 + 1 ≤ 4; omega) (by
                      rw [hMc]
                      exact k40_mkM w6 wr.heap.size _ (⟨(rd_T40 m j).f0, (rd_T40 m j).f1, true⟩ : S40)) (fun _ hk => hk.elim))
                    have g3 : w6.cell? ⟨g, j.toNat * 4 + 3, none⟩ = some (.bool (rd_T40 m j).f2) := hcc3
                    have q3 : w6.frozen? ⟨g, j.toNat * 4 + 3, none⟩ = false := hff 3
                    have HGB := Aside0.mk hgb
                    clear hcc hff hM e2 hcl hMc hcc3 HASK c hgb
                    go_wp2
                    refine bodyPost_ret (v := .tuple #[.slice (some ⟨g, 0, none⟩) m.length c2, u18, .int .i64 0]) (by simp [results, Try.results10, go_sem]) rfl ?_
                    show AskPost w (askI l0 t a2 true l4) _ _
                    rw [HA.out]
                    exact ⟨_, _, rfl, Kd.R_lower HSEG.out.1 hwb, Kd.R_mono (Kd.R_lower (HU.out.below (HB6.out.setCell (p := ⟨g, j.toNat * 4 + 3, none⟩) HGB.out _)).ro (Nat.le_succ _)) (fun _ _ => trivial), below_call HU.out.bel (HB6.out.setCell (p := ⟨g, j.toNat * 4 + 3, none⟩) HGB.out _)⟩
                  · have hj0b : decide (j ≥ 0) = false := decide_eq_false hj0
                    by_cases hm48 : 48 ≤ m.length
                    · have HA := Aside0.mk (HASK.out.trans ((if_neg hj0).trans (if_pos hm48)))
                      have hm48b : decide ((m.length : Int) ≥ 48) = true := decide_eq_true (by omega)
                      go_wp2_with (go_at_call 24; refine (HCL.out _ (Kd.C_below HR.out (below_call HU.out.bel HB6.out))).mono ?_; rintro e w9 ⟨v, rfl, ho9, hb9⟩; have HO := Aside0.mk (Kd.R_lower ho9 (below_call HU.out.bel HB6.out).size); have HB9 := Aside0.mk (below_call (below_call HU.out.bel HB6.out) hb9); clear ho9 hb9)
                      refine bodyPost_ret (v := .tuple #[v, .slice none 0 0, .int .i64 5]) (by simp [results, Try.results10, go_sem]) rfl ?_
                      show AskPost w (askI l0 t a2 true l4) _ _
                      rw [HA.out]
                      exact ⟨_, _, rfl, HO.out, Kd.R_nil _ _ _ _ _, HB9.out⟩
                    · have HA := Aside0.mk (HASK.out.trans ((if_neg hj0).trans (if_neg hm48)))
                      have hm48b : decide ((m.length : Int) ≥ 48) = false := decide_eq_false (by omega)
                      have HM48 := Aside0.mk hm48
                      go_wp2_with (first
                        | ((with_reducible refine gate_builtin (b := .append) (xs := #[.tmp 113, .tmp 118]) rfl ?_); at_builtin; refine Kd.R_append k40 (w0 := wr) wr.heap.size rfl (.tmp 113) (.tmp 118) 22 40 (.agg #[(.string ⟨#[]⟩), (.int .u64 0), (.int .u64 0), (.bool false)]) 40 rfl Try.underlying22 info40 rfl (by decide) (by omega) _ m ⟨a2, t, true⟩ [.string a2, .int .u64 t.f0, .int .u64 t.f1, .bool true] (fun _ => True) (fun _ => False) rfl rfl ?aP (fun _ hk => hk.elim) (fun _ _ => trivial) HO6.out HB6.out HB6.out.size ?aL ?_; (case aP => exact k40_mkM _ _ _ (⟨a2, t, true⟩ : S40)); (case aL => (have := HM48.out; omega)); intro v7 w7 ho7 hb7 hg7 hat7; have HO7 := Aside0.mk ho7; have HB7 := Aside0.mk hb7; clear ho7 hb7 hg7 hat7)
                        | fail)
                      refine bodyPost_ret (v := .tuple #[v7, u18, .int .i64 0]) (by simp [results, Try.results10, go_sem]) rfl ?_
                      show AskPost w (askI l0 t a2 true l4) _ _
                      rw [HA.out]
                      exact ⟨_, _, rfl, Kd.R_lower HO7.out hwb, Kd.R_mono (Kd.R_lower (HU.out.below HB7.out).ro (Nat.le_succ _)) (fun _ _ => trivial), below_call HU.out.bel HB7.out⟩
    · have h1b := decide_eq_false h1
      have h1c : decide (q ≥ 0) = false := decide_eq_false h1
      clear hh
      go_wp2_with fail
      go_loopg [45] l4.length (fun g v45 wr => ∃ i : Nat, v45 = .int .i64 (i : Int) ∧ Aside0 (i ≤ l4.length ∧ l4.length - i ≤ g) ∧ Aside0 (Set54 wr w1.heap.size i (inB (l4.take i))) ∧ Aside0 (wr.heap[w.heap.size]? = some (.cells #[.int .u64 t.f0, .int .u64 t.f1] 25 (0, 0))) ∧ Aside0 (Below w.heap.size w wr))
      case atStart => exact ⟨0, rfl, ⟨by omega⟩, ⟨MapB.made w1⟩, ⟨blk_alloc HKT.out _⟩, ⟨below_alloc HB1.out _⟩⟩
      case round =>
        clear hmm ct zt
        obtain ⟨i, rfl, HI, HM, HT, HB⟩ := hrel
        by_cases hlt : (i : Int) < l4.length
        · have hltb := decide_eq_true hlt
          have hil : i < l4.length := by omega
          obtain ⟨ad4, had4, f0, f1⟩ := at_T25 HR4.out (i : Int) (by omega) hlt
          cases had4
          simp only [Int.toNat_natCast] at f0 f1
          replace f0 := (HB.out.cell (World.block_lt_of_cell? w _ f0)).trans f0
          replace f1 := (HB.out.cell (World.block_lt_of_cell? w _ f1)).trans f1
          obtain ⟨x, hx⟩ : ∃ x, rd_T25 l4 (i : Int) = x := ⟨_, rfl⟩
          have HX := Aside0.mk hx
          have HOKX := Aside0.mk (HOK4.out x (by rw [← hx, rd_at25 l4 i hil]; exact List.getElem_mem _))
          rw [hx] at f0 f1
          clear hx
          go_wp2_with (first
            | (at_mapUpdate; obtain ⟨kl, hkl⟩ := key25 x HOKX.out; refine wpList_mapUpdate_B _ rfl _ _ _ 54 rfl 25 4 keyed25 (fun x y _ _ h => enc25_inj x y h) Try.underlying54 Try.underlying4 w1.heap.size i rfl (MapB.alloc HM.out _) ?hn x HOKX.out kl rfl true rfl hkl ?_; (case hn => (unfold maxLen; omega)); intro w3 hm3 hg3; have HM3 := Aside0.mk hm3; have HG3 := Aside0.mk hg3; clear hm3 hg3 hkl)
            | fail)
          go_roundg (gk - 1)
          case measure => have := HI.out; omega
          case rel =>
            refine ⟨i + 1, by go_num, ⟨by have := HI.out; omega⟩, ⟨?_⟩, ⟨blk_grown (blk_alloc HT.out _) HG3.out (fun e => by have := Option.some.inj e; have := HZ.out; omega)⟩, ⟨Below.grown (below_alloc HB.out _) HG3.out (below_alloc HB.out _).size (fun k hk => by cases hk; exact HB1.out.size)⟩⟩
            have h := HM3.out
            rw [← HX.out, inB_next l4 i hil] at h
            exact h
        · have hltb := decide_eq_false hlt
          have hie : i = l4.length := by have := HI.out; omega
          have hm1 := HM.out
          rw [hie, List.take_length] at hm1
          have HM1 := Aside0.mk hm1
          have HT1 := Aside0.mk HT.out
          have HMZ := Aside0.mk (MapB.lt hm1)
          clear HM HT hm1
          have hmm := @run_makeMap Try.prog
          go_wp2_with fail
          obtain ⟨wa, rfl⟩ : ∃ wo : World, wo = wr := ⟨_, rfl⟩
          go_loopg [18, 55] l0.length (fun g v18 v55 ws => ∃ (i : Nat) (out : List S25), v55 = .int .i64 (i : Int) ∧ Aside0 (i ≤ l0.length ∧ l0.length - i ≤ g ∧ out.length ≤ i) ∧ Aside0 (scanB t a2 a3 l4 l0 [] = scanB t a2 a3 l4 (l0.drop i) out) ∧ Aside0 (Bund w w1.heap.size wa.heap.size l4.length i t l4 out out v18 ws))
          case atStart =>
            exact ⟨0, [], rfl, ⟨Nat.zero_le _, by omega, Nat.zero_le _⟩, ⟨rfl⟩, ⟨⟨MapB.alloc (MapB.alloc (hie ▸ HM1.out) _) _, MapB.alloc (MapB.made wa) _, blk_newAt _ (by simp), blk_alloc (blk_alloc HT1.out _) _, Kd.R_nil _ _ _ _ _, below_alloc (below_alloc HB.out _) _, by have := HMZ.out; omega, HB.out.size⟩⟩⟩
          case round =>
            clear hmm HT1 HM1 HI hltb hlt
            obtain ⟨i, out, rfl, HI, HT, HU⟩ := hrel
            by_cases hlt : (i : Int) < l0.length
            · have hltb := decide_eq_true hlt
              have hil : i < l0.length := by omega
              obtain ⟨adx, hadx, f0, f1, f2, f3⟩ := at_T40 HR.out (i : Int) (by omega) hlt
              cases hadx
              simp only [Int.toNat_natCast] at f0 f1 f2 f3
              replace f0 := (HU.out.bel.cell (World.block_lt_of_cell? w _ f0)).trans f0
              replace f1 := (HU.out.bel.cell (World.block_lt_of_cell? w _ f1)).trans f1
              replace f2 := (HU.out.bel.cell (World.block_lt_of_cell? w _ f2)).trans f2
              replace f3 := (HU.out.bel.cell (World.block_lt_of_cell? w _ f3)).trans f3
              obtain ⟨x, hx⟩ : ∃ x, rd_T40 l0 (i : Int) = x := ⟨_, rfl⟩
              have HX := Aside0.mk hx
              have HOKX := Aside0.mk (HOK.out x (hx ▸ rd_mem l0 i hil))
              have HT2 := Aside0.mk (HT.out.trans (scanB_at t a2 a3 l4 l0 i hil out))
              rw [hx] at f0 f1 f2 f3 HT2
              clear hx HT
              have ct := fun o => blk_cell HU.out.kt o
              have zt := blk_lt HU.out.kt
              go_wp2_with fail
              refine (lock_inWay.calls x.f0 x.f1.f0 x.f1.f1 x.f2 t.f0 t.f1 a2 a3 (wayB x t a2 a3) _ rfl).mono ?_
              rintro e w2 ⟨rfl, hb⟩
              have HU2 := Aside0.mk (HU.out.below (below_call (below_alloc (Below.refl wr.heap.size wr) _) hb))
              have kx := blk_below (blk_new wr (.cells #[.string x.f0, .int .u64 x.f1.f0, .int .u64 x.f1.f1, .bool x.f2] 40)) hb
              have KX := Aside0.mk kx
              clear ct zt f0 f1 f2 f3 hb
              have ct := fun o => blk_cell HU2.out.kt o
              have zt := blk_lt HU2.out.kt
              have cx := fun o => blk_cell kx o
              have zx := blk_lt kx
              clear kx
              cases hw : wayB x t a2 a3 with
              | false =>
                have HW := Aside0.mk hw
                clear hw
                go_wp2
                go_roundg (gk - 1)
                case measure => have := HI.out; omega
                case rel => exact ⟨i + 1, out, by go_num, ⟨by have := HI.out; omega⟩, ⟨HT2.out.trans (if_neg (by rw [HW.out]; decide))⟩, ⟨HU2.out.more (by omega)⟩⟩
              | true =>
                have HW := Aside0.mk hw
                clear hw
                have hl1 := look54 HU2.out.s1 x.f1 HOKX.out
                cases hin : inB l4 x.f1 with
                | true =>
                  have HIN := Aside0.mk hin
                  rw [hin] at hl1
                  clear hin
                  have HA := Aside0.mk (show askI l0 t a2 a3 l4 = (l0, [], 11) by unfold askI; rw [if_neg (by rw [HA0.out]; decide), HT2.out, if_pos HW.out, if_pos (by rw [HIN.out]; rfl)])
                  go_wp2_with (go_at_call 24; refine (HCL.out _ (Kd.C_below HR.out HU2.out.bel)).mono ?_; rintro e w9 ⟨v, rfl, ho9, hb9⟩; have HO := Aside0.mk (Kd.R_lower ho9 HU2.out.bel.size); have HB9 := Aside0.mk (below_call HU2.out.bel hb9); clear ho9 hb9)
                  refine bodyPost_ret (v := .tuple #[v, .slice none 0 0, .int .i64 11]) (by simp [results, Try.results10, go_sem]) rfl ?_
                  show AskPost w (askI l0 t a2 a3 l4) _ _
                  rw [HA.out]
                  exact ⟨_, _, rfl, HO.out, Kd.R_nil _ _ _ _ _, HB9.out⟩
                | false =>
                  have HIN := Aside0.mk hin
                  rw [hin] at hl1
                  clear hin
                  go_wp2_with fail
                  refine (lock_Elder.calls t.f0 t.f1 x.f1.f0 x.f1.f1 (elderB t x.f1) _ rfl).mono ?_
                  rintro e w3 ⟨rfl, hb⟩
                  have HU3 := Aside0.mk (HU2.out.below hb)
                  have kx := blk_below KX.out hb
                  have KX3 := Aside0.mk kx
                  clear ct zt cx zx hb hl1
                  have cx := fun o => blk_cell kx o
                  have zx := blk_lt kx
                  clear kx
                  cases he : elderB t x.f1 with
                  | false =>
                    have HE := Aside0.mk he
                    clear he
                    have HA := Aside0.mk (show askI l0 t a2 a3 l4 = (l0, [], 11) by unfold askI; rw [if_neg (by rw [HA0.out]; decide), HT2.out, if_pos HW.out, if_pos (by rw [HIN.out, HE.out]; rfl)])
                    go_wp2_with (go_at_call 24; refine (HCL.out _ (Kd.C_below HR.out HU3.out.bel)).mono ?_; rintro e w9 ⟨v, rfl, ho9, hb9⟩; have HO := Aside0.mk (Kd.R_lower ho9 HU3.out.bel.size); have HB9 := Aside0.mk (below_call HU3.out.bel hb9); clear ho9 hb9)
                    refine bodyPost_ret (v := .tuple #[v, .slice none 0 0, .int .i64 11]) (by simp [results, Try.results10, go_sem]) rfl ?_
                    show AskPost w (askI l0 t a2 a3 l4) _ _
                    rw [HA.out]
                    exact ⟨_, _, rfl, HO.out, Kd.R_nil _ _ _ _ _, HB9.out⟩
                  | true =>
                    have HE := Aside0.mk he
                    clear he
                    have HT3 := Aside0.mk (HT2.out.trans ((if_pos HW.out).trans (if_neg (by rw [HIN.out, HE.out]; decide))))
                    have hl2 := look54 HU3.out.s2 x.f1 HOKX.out
                    have cv := fun o => blk_cell HU3.out.kv o
                    have zv := blk_lt HU3.out.kv
                    cases ho : inB out x.f1 with
                    | true =>
                      have HO := Aside0.mk ho
                      rw [ho] at hl2
                      clear ho
                      go_wp2
                      go_roundg (gk - 1)
                      case measure => have := HI.out; omega
                      case rel => exact ⟨i + 1, out, by go_num, ⟨by have := HI.out; omega⟩, ⟨by rw [HT3.out, if_pos HO.out]⟩, ⟨HU3.out.more (by omega)⟩⟩
                    | false =>
                      have HO := Aside0.mk ho
                      rw [ho] at hl2
                      clear ho
                      go_wp2_with (first
                        | (at_mapUpdate; obtain ⟨kl, hkl⟩ := key25 x.f1 HOKX.out; refine wpList_mapUpdate_B _ rfl _ _ _ 54 rfl 25 4 keyed25 (fun x y _ _ h => enc25_inj x y h) Try.underlying54 Try.underlying4 wa.heap.size i rfl HU3.out.s2 ?hn x.f1 HOKX.out kl rfl true rfl hkl ?_; (case hn => (unfold maxLen; omega)); intro w4 hm4 hg4; have HU4 := Aside0.mk (HU3.out.mark hm4 hg4); have kx := blk_grown KX3.out hg4 (fun e => by have := Option.some.inj e; have := MapB.lt HU.out.s2; omega); clear hm4 hg4 hkl cx zx cv zv hl2; have cx := fun o => blk_cell kx o; have zx := blk_lt kx; clear kx)
                        | ((with_reducible refine gate_builtin (b := .append) (xs := #[.tmp 86, .tmp 89]) rfl ?_); at_builtin; refine Kd.R_append k25 (w0 := w4) (w.heap.size + 1) rfl (.tmp 86) (.tmp 89) 28 25 (.agg #[(.int .u64 0), (.int .u64 0)]) 16 rfl Try.underlying28 info25a rfl (by decide) (by omega) _ out x.f1 [.int .u64 x.f1.f0, .int .u64 x.f1.f1] (fun _ => True) (fun _ => False) rfl rfl ?aP (fun _ hk => hk.elim) (fun _ _ => trivial) HU4.out.ro ?aB ?aS ?aL ?_; (case aP => exact k25_mkM _ _ _ x.f1); (case aB => exact Below.refl _ _); (case aS => exact blk_lt HU4.out.kt); (case aL => (have := HI.out; have := HS.out; omega)); intro v1 w5 ho5 hb5 hg5 hat5; have HU5 := Aside0.mk (HU4.out.append ho5 hg5); clear ho5 hb5 hg5 hat5)
                        | fail)
                      go_roundg (gk - 1)
                      case measure => have := HI.out; omega
                      case rel => exact ⟨i + 1, out ++ [x.f1], by go_num, ⟨by have := HI.out; rw [List.length_append]; simp only [List.length_cons, List.length_nil]; omega⟩, ⟨by rw [HT3.out, if_neg (by rw [HO.out]; decide)]⟩, HU5⟩
            · have hltb := decide_eq_false hlt
              have hie2 : i = l0.length := by have := HI.out; omega
              have HASK := Aside0.mk (show askI l0 t a2 a3 l4 = askE l0 t a2 a3 out by rw [askI_eq _ _ _ _ _ HA0.out, HT.out, hie2, List.drop_length]; rfl)
              have cv := fun o => blk_cell HU.out.kv o
              have zv := blk_lt HU.out.kv
              go_wp2_with fail
              refine (HCL.out _ (Kd.C_below HR.out HU.out.bel)).mono ?_
              rintro e w4 ⟨v, rfl, ho4, hb4⟩
              have HU4 := Aside0.mk (HU.out.below hb4)
              have HWS := Aside0.mk hb4.size
              go_wp2_with fail
              refine (del27_any v l0 (fun x => inB out x.f1) (wa.heap.size + 1) (fun W => W.heap[wa.heap.size + 1]? = some (.cells #[.map (some wa.heap.size)] 54 (0, 0)) ∧ Set54 W wa.heap.size i (inB out)) wr.heap.size w4 ho4 ⟨HU4.out.kv, HU4.out.s2⟩
                (fun W W' hj hb => ⟨blk_below hj.1 hb, MapB.below hj.2 hb⟩) (fun W W' g hg hj hgr => ⟨blk_grown hj.1 hgr (fun e => by have := Option.some.inj e; omega), MapB.kept hj.2 hgr (fun e => by have := Option.some.inj e; have := MapB.lt HU.out.s2; omega)⟩)
                (fun x W hx hj => cl27 x (wa.heap.size + 1) wa.heap.size i (inB out) (HOK.out x hx) W hj.1 hj.2)).mono ?_
              rintro e w5 ⟨v2, rfl, ho5, ⟨row, hg5, hr5⟩, _⟩
              unfold askE at HASK
              obtain ⟨m, hm⟩ : ∃ m, keepB (fun x => inB out x.f1) l0 = m := ⟨_, rfl⟩
              rw [hm] at HASK ho5
              have HML := Aside0.mk (show m.length ≤ l0.length by rw [← hm]; exact keep_len _ _)
              clear hm
              have B5 := Below.grown hb4 hg5 hb4.size hr5
              have HU5 := HU.out.below B5
              obtain ⟨A2, c2, rfl⟩ := Kd.R_slice ho5
              have HO5 := Aside0.mk ho5
              have HB5 := Aside0.mk B5
              have HKT5 := Aside0.mk HU5.kt
              have ct := fun o => blk_cell HKT5.out o
              have zt := blk_lt HKT5.out
              clear hb4 hg5 hr5 ho4 HU4 HU5 ho5 B5 cv zv
              go_wp2_with fail
              refine (lock_of.calls A2 c2 m t.f0 t.f1 a2 (ofI t a2 m) w5 (Kd.R_reads' HO5.out).2.2 (Kd.R_reads' HO5.out).2.1 rfl).mono ?_
              rintro e w6 ⟨rfl, hb6⟩
              have HB6 := Aside0.mk (below_call HB5.out hb6)
              have HO6 := Aside0.mk (Kd.R_below HO5.out hb6)
              have HKT6 := Aside0.mk (blk_below HKT5.out hb6)
              clear ct zt hb6 HB5 HO5 HKT5
              have ct := fun o => blk_cell HKT6.out o
              have zt := blk_lt HKT6.out
              have hjlt := ofI_lt t a2 m
              unfold askM at HASK
              obtain ⟨j, hj⟩ : ∃ j, ofI t a2 m = j := ⟨_, rfl⟩
              rw [hj] at HASK hjlt ⊢
              clear hj
              have hwb : w.heap.size ≤ wr.heap.size := HU.out.bel.size
              by_cases hj0 : 0 ≤ j
              · have hj0b : decide (j ≥ 0) = true := decide_eq_true hj0
                have HA := Aside0.mk (HASK.out.trans (if_pos hj0))
                obtain ⟨g, cap, he, hgb, _⟩ := Kd.R_form HO6.out (by omega)
                cases he
                obtain ⟨c, hcl, hM, hcc, hff⟩ := Kd.R_elem HO6.out z40 j hj0 hjlt
                have e2 : (k40 : Kd S40).sz = 4 := rfl
                have hMc := k40_openM hM
                have hcc3 := hcc 3 (.bool (rd_T40 m j).f2) (by rw [hMc]; rfl)
                have HSEG := Aside0.mk (Kd.R_seg (x' := (⟨(rd_T40 m j).f0, (rd_T40 m j).f1, true⟩ : S40)) (okp := fun _ => False) (seg := [.bool true]) (j := 3) HO6.out j hj0 hjlt hcl hcc (by show 3 + 1 ≤ 4; omega) (by
                  rw [hMc]
                  exact k40_mkM w6 wr.heap.size _ (⟨(rd_T40 m j).f0, (rd_T40 m j).f1, true⟩ : S40)) (fun _ hk => hk.elim))
                have g3 : w6.cell? ⟨g, j.toNat * 4 + 3, none⟩ = some (.bool (rd_T40 m j).f2) := hcc3
                have q3 : w6.frozen? ⟨g, j.toNat * 4 + 3, none⟩ = false := hff 3
                have HGB := Aside0.mk hgb
                clear hcc hff hM e2 hcl hMc hcc3 HASK c hgb
                go_wp2
                refine bodyPost_ret (v := .tuple #[.slice (some ⟨g, 0, none⟩) m.length c2, u18, .int .i64 0]) (by simp [results, Try.results10, go_sem]) rfl ?_
                show AskPost w (askI l0 t a2 a3 l4) _ _
                rw [HA.out]
                exact ⟨_, _, rfl, Kd.R_lower HSEG.out.1 hwb, Kd.R_mono (Kd.R_lower (HU.out.below (HB6.out.setCell (p := ⟨g, j.toNat * 4 + 3, none⟩) HGB.out _)).ro (Nat.le_succ _)) (fun _ _ => trivial), below_call HU.out.bel (HB6.out.setCell (p := ⟨g, j.toNat * 4 + 3, none⟩) HGB.out _)⟩
              · have hj0b : decide (j ≥ 0) = false := decide_eq_false hj0
                by_cases hm48 : 48 ≤ m.length
                · have HA := Aside0.mk (HASK.out.trans ((if_neg hj0).trans (if_pos hm48)))
                  have hm48b : decide ((m.length : Int) ≥ 48) = true := decide_eq_true (by omega)
                  go_wp2_with (go_at_call 24; refine (HCL.out _ (Kd.C_below HR.out (below_call HU.out.bel HB6.out))).mono ?_; rintro e w9 ⟨v, rfl, ho9, hb9⟩; have HO := Aside0.mk (Kd.R_lower ho9 (below_call HU.out.bel HB6.out).size); have HB9 := Aside0.mk (below_call (below_call HU.out.bel HB6.out) hb9); clear ho9 hb9)
                  refine bodyPost_ret (v := .tuple #[v, .slice none 0 0, .int .i64 5]) (by simp [results, Try.results10, go_sem]) rfl ?_
                  show AskPost w (askI l0 t a2 a3 l4) _ _
                  rw [HA.out]
                  exact ⟨_, _, rfl, HO.out, Kd.R_nil _ _ _ _ _, HB9.out⟩
                · have HA := Aside0.mk (HASK.out.trans ((if_neg hj0).trans (if_neg hm48)))
                  have hm48b : decide ((m.length : Int) ≥ 48) = false := decide_eq_false (by omega)
                  have HM48 := Aside0.mk hm48
                  go_wp2_with (first
                    | ((with_reducible refine gate_builtin (b := .append) (xs := #[.tmp 113, .tmp 118]) rfl ?_); at_builtin; refine Kd.R_append k40 (w0 := wr) wr.heap.size rfl (.tmp 113) (.tmp 118) 22 40 (.agg #[(.string ⟨#[]⟩), (.int .u64 0), (.int .u64 0), (.bool false)]) 40 rfl Try.underlying22 info40 rfl (by decide) (by omega) _ m ⟨a2, t, a3⟩ [.string a2, .int .u64 t.f0, .int .u64 t.f1, .bool a3] (fun _ => True) (fun _ => False) rfl rfl ?aP (fun _ hk => hk.elim) (fun _ _ => trivial) HO6.out HB6.out HB6.out.size ?aL ?_; (case aP => exact k40_mkM _ _ _ (⟨a2, t, a3⟩ : S40)); (case aL => (have := HM48.out; omega)); intro v7 w7 ho7 hb7 hg7 hat7; have HO7 := Aside0.mk ho7; have HB7 := Aside0.mk hb7; clear ho7 hb7 hg7 hat7)
                    | fail)
                  refine bodyPost_ret (v := .tuple #[v7, u18, .int .i64 0]) (by simp [results, Try.results10, go_sem]) rfl ?_
                  show AskPost w (askI l0 t a2 a3 l4) _ _
                  rw [HA.out]
                  exact ⟨_, _, rfl, Kd.R_lower HO7.out hwb, Kd.R_mono (Kd.R_lower (HU.out.below HB7.out).ro (Nat.le_succ _)) (fun _ _ => trivial), below_call HU.out.bel HB7.out⟩
theorem lock_Ask.calls (A0 : Option Addr) (c0 : Nat) (l0 : List S40) (a1_0 a1_1 : Int) (a2 : ByteArray) (a3 : Bool) (A4 : Option Addr) (c4 : Nat) (l4 : List S25) (r1 : List S40) (r2 : List S25) (r3 : Int) (w : World) (hr0 : Kd.C k40 w A0 l0.length l0) (hc0 : l0.length ≤ c0) (hr4 : Kd.C k25 w A4 l4.length l4) (hc4 : l4.length ≤ c4) (h : lock_Ask.f l0 a1_0 a1_1 a2 a3 l4 = some (r1, r2, r3)) :
    Calls Try.prog 10 #[.slice A0 l0.length c0, .agg #[.int .u64 a1_0, .int .u64 a1_1], .string a2, .bool a3, .slice A4 l4.length c4] w fun e w' => ∃ v0_ v1_ : Value, e = .returned (.tuple #[v0_, v1_, .int .i64 r3]) ∧ Kd.R k40 40 w' w.heap.size (fun _ => True) v0_ r1 ∧ Kd.R k25 25 w' w.heap.size (fun _ => True) v1_ r2 ∧ Below w.heap.size w w' := by
  unfold lock_Ask.f at h
  by_cases hs : l0.length < 3518437208883 ∧ l0.all (fun x => okT x.f1) = true ∧ l4.all okT = true
  rotate_left
  · rw [if_neg hs] at h; cases h
  rw [if_pos hs] at h
  have hr := Option.some.inj h
  refine (ask_walk A0 c0 l0 ⟨a1_0, a1_1⟩ a2 a3 A4 c4 l4 w hr0 hc0 hr4 hc4 hs.1 (fun x hx => okT_tx (List.all_eq_true.1 hs.2.1 x hx)) (fun x hx => okT_tx (List.all_eq_true.1 hs.2.2 x hx))).mono ?_
  rintro e w' ⟨v0, v1, rfl, h1, h2, h3⟩
  rw [hr] at h1 h2 ⊢
  exact ⟨v0, v1, rfl, h1, h2, h3⟩
end Go.Proofs.Ytgmflfbhifdacaa.Pr
