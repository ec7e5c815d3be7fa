/- slices.DeleteFunc of holds: what it answers. Conditions: none. -/
import Derived.Test.YtgmflfbhifdacaaHandFind
import Derived.Lib.SliceRun
import Derived.Laws.IdiomCopy
namespace Go.Proofs.Ytgmflfbhifdacaa.Pr
open Go.RowKit Go.Proofs.YtgmflfbhifdacaaW.PrintWords Go.Proofs.YtgmflfbhifdacaaW.PrintLast Go.Proofs.YtgmflfbhifdacaaW.PrintMore
open Go.Proofs.Ytgmflfbhifdacaa.Hnd
attribute [local go_sem] setCell_drewN_ alloc_drewN_
set_option linter.unusedVariables false
set_option linter.unusedSimpArgs false
theorem idxN_spec {p : S40 → Bool} : ∀ (l : List S40) (i : Nat), (idxN p l i = -1 ∧ ∀ x ∈ l, p x = false) ∨ ∃ k, k < l.length ∧ idxN p l i = ((i + k : Nat) : Int) ∧ (∀ x ∈ l.take k, p x = false) ∧ ∃ x, l[k]? = some x ∧ p x = true
  | [], _ => .inl ⟨rfl, fun x hx => by cases hx⟩
  | y :: r, i => by
    cases h : p y with
    | true => exact .inr ⟨0, by simp, by simp [idxN, h], fun x hx => by simp at hx, y, rfl, h⟩
    | false =>
      rcases idxN_spec (p := p) r (i + 1) with ⟨e, ha⟩ | ⟨k, hk, e, ha, x, hx, hp⟩
      · refine .inl ⟨by simp [idxN, h, e], fun x hx => ?_⟩
        rcases List.mem_cons.1 hx with rfl | hx
        · exact h
        · exact ha x hx
      · refine .inr ⟨k + 1, by simpa using hk, ?_, fun z hz => ?_, x, by simpa using hx, hp⟩
        · rw [idxN, h, if_neg (by decide), e]
          congr 1
          omega
        · rw [List.take_succ_cons] at hz
          rcases List.mem_cons.1 hz with rfl | hz
          · exact h
          · exact ha z hz
/-- What is kept of the first n. -/
def keepB (p : S40 → Bool) (l : List S40) : List S40 := l.filter fun x => !p x
theorem keep_all {p : S40 → Bool} {l : List S40} (h : ∀ x ∈ l, p x = false) : keepB p l = l := List.filter_eq_self.2 fun x hx => by simp [h x hx]
theorem keep_take (p : S40 → Bool) (l : List S40) (j : Nat) (h : j < l.length) : keepB p (l.take (j + 1)) = keepB p (l.take j) ++ if p (rd_T40 l (j : Int)) = true then [] else [rd_T40 l (j : Int)] := by
  rw [rd_at l j h, List.take_succ_eq_append_getElem h]
  unfold keepB
  rw [List.filter_append]
  cases hp : p l[j] <;> simp [hp]
theorem keep_len (p : S40 → Bool) (l : List S40) : (keepB p l).length ≤ l.length := List.length_filter_le _ _
/-- The row while it is rewritten. -/
structure Kept (p : S40 → Bool) (l cur : List S40) (i j : Nat) : Prop where
  len : cur.length = l.length
  ij : i < j
  jl : j ≤ l.length
  ki : (keepB p (l.take j)).length = i
  front : cur.take i = keepB p (l.take j)
  back : cur.drop j = l.drop j
theorem Kept.start {p : S40 → Bool} {l : List S40} {k : Nat} (hk : k < l.length) (ha : ∀ x ∈ l.take k, p x = false) {x : S40} (hx : l[k]? = some x) (hp : p x = true) : Kept p l l k (k + 1) := by
  have e : rd_T40 l (k : Int) = x := by
    rw [rd_at l k hk]
    rw [List.getElem?_eq_getElem hk] at hx
    exact Option.some.inj hx
  have e2 : keepB p (l.take (k + 1)) = l.take k := by
    rw [keep_take p l k hk, e, if_pos hp, keep_all ha, List.append_nil]
  exact ⟨rfl, by omega, hk, by rw [e2, List.length_take]; omega, e2.symm, rfl⟩
theorem Kept.get {p : S40 → Bool} {l cur : List S40} {i j : Nat} (h : Kept p l cur i j) (hj : j < l.length) : rd_T40 cur (j : Int) = rd_T40 l (j : Int) := by
  rw [rd_at cur j (by rw [h.len]; exact hj), rd_at l j hj]
  have := h.back
  rw [List.drop_eq_getElem_cons (by rw [h.len]; exact hj), List.drop_eq_getElem_cons hj] at this
  exact (List.cons.inj this).1
theorem Kept.drop {p : S40 → Bool} {l cur : List S40} {i j : Nat} (h : Kept p l cur i j) (hj : j < l.length) (hp : p (rd_T40 l (j : Int)) = true) : Kept p l cur i (j + 1) := by
  have e : keepB p (l.take (j + 1)) = keepB p (l.take j) := by rw [keep_take p l j hj, if_pos hp, List.append_nil]
  refine ⟨h.len, by have := h.ij; omega, hj, by rw [e]; exact h.ki, by rw [e]; exact h.front, ?_⟩
  have := congrArg (List.drop 1) h.back
  simpa [List.drop_drop] using this
theorem Kept.keep {p : S40 → Bool} {l cur : List S40} {i j : Nat} (h : Kept p l cur i j) (hj : j < l.length) (hp : p (rd_T40 l (j : Int)) = false) : Kept p l (cur.set i (rd_T40 l (j : Int))) (i + 1) (j + 1) := by
  have hij := h.ij
  have hlen := h.len
  have e : keepB p (l.take (j + 1)) = keepB p (l.take j) ++ [rd_T40 l (j : Int)] := by rw [keep_take p l j hj, if_neg (by rw [hp]; decide)]
  refine ⟨by rw [List.length_set]; exact hlen, by omega, hj, by rw [e, List.length_append, h.ki]; rfl, ?_, ?_⟩
  · rw [e, ← h.front, List.take_succ_eq_append_getElem (by rw [List.length_set]; omega), List.getElem_set_self]
    congr 1
    rw [List.take_set_of_le (Nat.le_refl _)]
  · rw [List.drop_set_of_lt (by omega)]
    have := congrArg (List.drop 1) h.back
    simpa [List.drop_drop] using this
theorem Kept.done {p : S40 → Bool} {l cur : List S40} {i j : Nat} (h : Kept p l cur i j) (hj : j = l.length) : cur.take i = keepB p l ∧ i < l.length ∧ i = (keepB p l).length := by
  subst hj
  have := h.front
  rw [List.take_length] at this
  have k := h.ki
  rw [List.take_length] at k
  exact ⟨this, h.ij, k.symm⟩
/-- The cells of zero holds. -/
def zs40 : Nat → List Value
  | 0 => []
  | n + 1 => [.string ⟨#[]⟩, .int .u64 0, .int .u64 0, .bool false] ++ zs40 n
theorem zs40_length : ∀ n, (zs40 n).length = n * 4
  | 0 => rfl
  | n + 1 => by
    show ([.string ⟨#[]⟩, .int .u64 0, .int .u64 0, .bool false] ++ zs40 n : List Value).length = _
    rw [List.length_append, zs40_length n]
    simp
    omega
theorem zs40_one : ∀ n, ∀ v ∈ zs40 n, v.oneCell' = true
  | 0, v, h => by cases h
  | n + 1, v, h => by
    rcases List.mem_append.1 h with h | h
    · simp at h
      rcases h with rfl | rfl | rfl <;> rfl
    · exact zs40_one n v h
theorem zs40_get : ∀ n i, i < n * 4 → (zs40 n)[i]? = (#[.string ⟨#[]⟩, .int .u64 0, .int .u64 0, .bool false] : Array Value)[i % 4]?
  | 0, i, h => by omega
  | n + 1, i, h => by
    show ([.string ⟨#[]⟩, .int .u64 0, .int .u64 0, .bool false] ++ zs40 n : List Value)[i]? = _
    by_cases h4 : i < 4
    · rw [List.getElem?_append_left (by simpa using h4), Nat.mod_eq_of_lt h4]
      simp
    · rw [List.getElem?_append_right (by simp; omega)]
      have e := zs40_get n (i - 4) (by omega)
      have e2 : (i - 4) % 4 = i % 4 := by omega
      rw [e2] at e
      exact e
theorem zero_cells (n : Nat) : (Go.Builtin.zeroCells #[.string ⟨#[]⟩, .int .u64 0, .int .u64 0, .bool false] n).toList = zs40 n := by
  apply List.ext_getElem?
  intro i
  by_cases h : i < n * 4
  · rw [zs40_get n i h]
    have h4 : i % 4 < 4 := Nat.mod_lt _ (by omega)
    simp [Go.Builtin.zeroCells, h]
    rcases (by omega : i % 4 = 0 ∨ i % 4 = 1 ∨ i % 4 = 2 ∨ i % 4 = 3) with e | e | e | e <;> rw [e] <;> rfl
  · rw [List.getElem?_eq_none (by simp [Go.Builtin.zeroCells]; omega), List.getElem?_eq_none (by rw [zs40_length]; omega)]
theorem zero40 (w : World) : (zeroValue 40).run Try.prog w = .ok (.agg #[.string ⟨#[]⟩, .int .u64 0, .int .u64 0, .bool false]) w := by kernel_rfl
theorem run_clear40 (w : World) (ty : TypeId) (b o n c : Nat) (hn : 0 < n) (hc : ∀ j, j < n * 4 → (w.cell? ⟨b, o + j, none⟩).isSome = true) (hf : ∀ j, j < n * 4 → w.frozen? ⟨b, o + j, none⟩ = false) :
    (Go.Builtin.clear_ #[22] ty #[.slice (some ⟨b, o, none⟩) n c]).run Try.prog w = .ok (.tuple #[]) (w.setCells b o (zs40 n)) := by
  have hst := run_storeCells_cells (P := Try.prog) b o (zs40 n) 0 w (by simpa [zs40_length] using hc) (by simpa [zs40_length] using hf) (zs40_one n)
  simp only [Nat.add_zero] at hst
  obtain ⟨m, rfl⟩ : ∃ m, n = m + 1 := ⟨n - 1, by omega⟩
  have hz : (Value.agg #[.string ⟨#[]⟩, .int .u64 0, .int .u64 0, .bool false]).cells = #[.string ⟨#[]⟩, .int .u64 0, .int .u64 0, .bool false] := rfl
  simp [Go.Builtin.clear_, run_underlying Try.underlying22, zero40, hz, zero_cells, hst]
theorem setCells_app (g : Nat) : ∀ (a b : List Value) (o : Nat) (w : World), w.setCells g o (a ++ b) = (w.setCells g o a).setCells g (o + a.length) b
  | [], b, o, w => rfl
  | v :: a, b, o, w => by
    show (w.setCell ⟨g, o, none⟩ v).setCells g (o + 1) (a ++ b) = _
    rw [setCells_app g a b (o + 1) _]
    show _ = ((w.setCell ⟨g, o, none⟩ v).setCells g (o + 1) a).setCells g (o + (a.length + 1)) b
    rw [(by omega : o + 1 + a.length = o + (a.length + 1))]
/-- A row of which elements are made zero. -/
theorem R_zeros {W0 : World} {base : Nat} {ok : Nat → Prop} {g cap : Nat} : ∀ (m : Nat) (i : Nat) (W : World) (xs : List S40), Kd.R k40 40 W base ok (.slice (some ⟨g, 0, none⟩) xs.length cap) xs → i + m ≤ xs.length → W0.grownBy W (some g) →
    ∃ ys : List S40, ys.length = xs.length ∧ ys.take i = xs.take i ∧ Kd.R k40 40 (W.setCells g (i * 4) (zs40 m)) base ok (.slice (some ⟨g, 0, none⟩) ys.length cap) ys ∧ W0.grownBy (W.setCells g (i * 4) (zs40 m)) (some g)
  | 0, i, W, xs, h, hi, hg => ⟨xs, rfl, rfl, h, hg⟩
  | m + 1, i, W, xs, h, hi, hg => by
    obtain ⟨c, hcl, hM, hcc, hff⟩ := Kd.R_elem h z40 (i : Int) (by omega) (by omega)
    obtain ⟨h1, h2⟩ := Kd.R_seg (x' := z40) (okp := fun _ => False) (seg := [.string ⟨#[]⟩, .int .u64 0, .int .u64 0, .bool false]) (j := 0) h (i : Int) (by omega) (by omega) hcl hcc (by show 0 + 4 ≤ 4; omega) (by
      have e : c.drop (0 + 4) = [] := List.drop_eq_nil_of_le (by rw [hcl]; exact Nat.le_refl _)
      rw [List.take_zero, List.nil_append]
      show Kd.M k40 W base _ z40 (_ ++ c.drop (0 + 4))
      rw [e, List.append_nil]
      exact k40_mkM W base _ z40) (fun _ hk => hk.elim)
    have e1 : ((i : Int)).toNat = i := Int.toNat_natCast i
    have e2 : (k40 : Kd S40).sz = 4 := rfl
    rw [e1, e2, Nat.add_zero] at h1 h2
    have hl : (xs.set i z40).length = xs.length := List.length_set
    rw [← hl] at h1
    have g2 : W0.grownBy (W.setCells g (i * 4) [.string ⟨#[]⟩, .int .u64 0, .int .u64 0, .bool false]) (some g) := World.grownBy.trans hg h2
    obtain ⟨ys, q1, q2, q3, q4⟩ := R_zeros m (i + 1) _ (xs.set i z40) h1 (by rw [hl]; omega) g2
    have e3 : W.setCells g (i * 4) (zs40 (m + 1)) = (W.setCells g (i * 4) [.string ⟨#[]⟩, .int .u64 0, .int .u64 0, .bool false]).setCells g ((i + 1) * 4) (zs40 m) := by
      show W.setCells g (i * 4) ([.string ⟨#[]⟩, .int .u64 0, .int .u64 0, .bool false] ++ zs40 m) = _
      rw [setCells_app]
      congr 1
      show i * 4 + 4 = _
      omega
    refine ⟨ys, q1.trans hl, ?_, by rw [e3]; exact q3, by rw [e3]; exact q4⟩
    have := congrArg (List.take i) q2
    rw [List.take_take, List.take_take, Nat.min_eq_left (by omega)] at this
    rw [this, List.take_set_of_le (Nat.le_refl _)]
/-- slices.DeleteFunc at this closure, a row of the call's own, which is not empty. -/
def Del29 (p : S40 → Bool) (l : List S40) (J : World → Prop) (w : World) (base : Nat) (ok : Nat → Prop) (g : Nat) (e : Ending) (w' : World) : Prop :=
  ∃ v : Value, e = .returned v ∧ v.ownBlock = some g ∧ Kd.R k40 40 w' base ok v (keepB p l) ∧ w.grownBy w' (some g) ∧ J w'
set_option maxHeartbeats 4000000 in
set_option maxRecDepth 100000 in
theorem del_29 (g cap : Nat) (l : List S40) (p : S40 → Bool) (b0 : Nat) (J : World → Prop) (base : Nat) (ok : Nat → Prop) (w : World) (hr : Kd.R k40 40 w base ok (.slice (some ⟨g, 0, none⟩) l.length cap) l) (hJ : J w)
    (HJ : ∀ W W' : World, J W → Below W.heap.size W W' → J W') (HG : ∀ W W' : World, J W → W.grownBy W' (some g) → J W') (HP : ∀ (x : S40) (W : World), x ∈ l → J W → Calls Try.prog 29 #[.agg #[.string x.f0, .int .u64 x.f1.f0, .int .u64 x.f1.f1, .bool x.f2], .pointer (some ⟨b0, 0, none⟩)] W fun e w' => e = .returned (.bool (p x)) ∧ Below W.heap.size W w') :
    Calls Try.prog 26 #[.slice (some ⟨g, 0, none⟩) l.length cap, .func (.func 29) #[] #[.pointer (some ⟨b0, 0, none⟩)]] w (Del29 p l J w base ok g) := by
  obtain ⟨hn, hc, hC⟩ := Kd.R_reads' hr
  have HL : l.length ≤ 9223372036854775807 := Kd.C_max hC
  have HI := idx_29 (some ⟨g, 0, none⟩) cap l p b0 J w hC hc hJ HJ HP
  have HR := Aside0.mk hr
  have HP0 := Aside0.mk HP
  have HJ1 := Aside0.mk HJ
  have HG1 := Aside0.mk HG
  clear hr hJ HP HJ HG hC hn
  rcases idxN_spec (p := p) l 0 with ⟨e1, ha⟩ | ⟨k, hk, e1, ha, x0, hx0, hp0⟩
  · rw [e1] at HI
    have HK := Aside0.mk (keep_all ha)
    clear ha e1
    go_enter Try.func26, Try.ntmps26
    go_wp2_with (go_at_call 33; refine HI.mono ?_; rintro e w1 ⟨rfl, hb, hj⟩; have HB := Aside0.mk hb; have HJ2 := Aside0.mk hj; clear hb hj)
    go_ret
    exact ⟨_, rfl, rfl, by rw [HK.out]; exact Kd.R_below HR.out HB.out, grown_of_below HB.out _, HJ2.out⟩
  · have e2 : idxN p l 0 = (k : Int) := by rw [e1]; omega
    rw [e2] at HI
    have HS := Aside0.mk (Kept.start hk ha hx0 hp0)
    have hne1 : ((k : Int) == -1) = false := beq_eq_false_iff_ne.2 (by omega)
    have HKL := Aside0.mk hk
    have hk9 : k < 9223372036854775807 := by omega
    clear ha e1 e2 hx0 hp0 hk
    go_enter Try.func26, Try.ntmps26
    go_wp2_with (go_at_call 33; refine HI.mono ?_; rintro e w1 ⟨rfl, hb, hj⟩; have HB := Aside0.mk hb; have HJ2 := Aside0.mk hj; clear hb hj)
    go_loopg [5, 6, 7] l.length (fun gg v5 v6 v7 wr => ∃ (i j : Nat) (cur : List S40), v5 = .int .i64 (i : Int) ∧ v6 = .int .i64 (j : Int) ∧ Aside0 (Kept p l cur i j ∧ l.length - j ≤ gg) ∧ Aside0 (Kd.R k40 40 wr base ok (.slice (some ⟨g, 0, none⟩) l.length cap) cur) ∧ Aside0 (w.grownBy wr (some g)) ∧ Aside0 (J wr))
    case atStart =>
      exact ⟨k, k + 1, l, rfl, by go_num, ⟨HS.out, by have := HKL.out; omega⟩, ⟨Kd.R_below HR.out HB.out⟩, ⟨grown_of_below HB.out _⟩, HJ2⟩
    case round =>
      clear HB HJ2 HS HI hne1
      obtain ⟨i, j, cur, rfl, rfl, HI, HRr, HGr, HJr⟩ := hrel
      have hjl := HI.out.1.jl
      have hij := HI.out.1.ij
      have hcl := HI.out.1.len
      have HCL := Aside0.mk hcl
      by_cases hlt : (j : Int) < l.length
      · have hltb := decide_eq_true hlt
        obtain ⟨ha1, ha2, hC⟩ := Kd.R_reads' HRr.out
        obtain ⟨ad, had, f0, f1, f2, f3⟩ := at_T40 hC (j : Int) (by omega) (by omega)
        obtain rfl := (Option.some.inj had).symm
        simp only [Int.toNat_natCast, add_plain] at f0 f1 f2 f3
        have hget := HI.out.1.get (by omega)
        obtain ⟨x, hx⟩ : ∃ x, rd_T40 l (j : Int) = x := ⟨_, rfl⟩
        have HX := Aside0.mk hx
        have HM := Aside0.mk (hx ▸ rd_mem l j (by omega))
        rw [hget, hx] at f0 f1 f2 f3
        clear hx hget hC had hcl ha1 ha2
        go_wp2_with fail
        refine (HP0.out x _ HM.out (HJ1.out _ _ HJr.out (below_alloc (Below.refl _ _) _))).mono ?_
        rintro e w2 ⟨rfl, hb⟩
        have HB2 := Aside0.mk (below_call (below_alloc (Below.refl wr.heap.size wr) _) hb)
        have HR2 := Aside0.mk (Kd.R_below HRr.out HB2.out)
        have HG2 := Aside0.mk (World.grownBy.trans HGr.out (grown_of_below HB2.out (some g)))
        have HJ2 := Aside0.mk (HJ1.out _ _ HJr.out HB2.out)
        have k7 := blk_below (blk_new wr (.cells #[.string x.f0, .int .u64 x.f1.f0, .int .u64 x.f1.f1, .bool x.f2] 40)) hb
        have K7 := Aside0.mk k7
        have c7 := fun o => blk_cell k7 o
        have z7 := blk_lt k7
        clear hb k7 f0 f1 f2 f3
        cases hp : p x with
        | true =>
          have HQ := Aside0.mk hp
          clear hp
          go_wp2
          go_roundg (gk - 1)
          case measure => have := HI.out.2; omega
          case rel => exact ⟨i, j + 1, cur, rfl, by go_num, ⟨HI.out.1.drop (by omega) (by rw [HX.out]; exact HQ.out), by have := HI.out.2; omega⟩, HR2, HG2, HJ2⟩
        | false =>
          have HQ := Aside0.mk hp
          clear hp
          have hRl := HR2.out
          rw [← HCL.out] at hRl
          obtain ⟨c, hcl, hM, hcc, hff⟩ := Kd.R_elem hRl z40 (i : Int) (by omega) (by have := HCL.out; omega)
          have e2 : (k40 : Kd S40).sz = 4 := rfl
          rw [e2] at hcl hcc hff
          simp only [Int.toNat_natCast] at hcc hff
          have HSEG := Aside0.mk (Kd.R_seg (x' := x) (okp := fun _ => False) (seg := [.string x.f0, .int .u64 x.f1.f0, .int .u64 x.f1.f1, .bool x.f2]) (j := 0) hRl (i : Int) (by omega) (by have := HCL.out; omega) hcl (by simpa [e2] using hcc) (by show 0 + 4 ≤ 4; omega) (by
            have e : c.drop (0 + 4) = [] := List.drop_eq_nil_of_le (by rw [hcl]; exact Nat.le_refl _)
            rw [List.take_zero, List.nil_append]
            show Kd.M k40 w2 base _ x (_ ++ c.drop (0 + 4))
            rw [e, List.append_nil]
            exact k40_mkM w2 base _ x) (fun _ hk => hk.elim))
          match c, hcl with
          | [c0, c1, c2, c3], _ =>
            have g0 := hcc 0 c0 rfl
            have g1 := hcc 1 c1 rfl
            have g2 := hcc 2 c2 rfl
            have g3 := hcc 3 c3 rfl
            have q0 := hff 0
            have q1 := hff 1
            have q2 := hff 2
            have q3 := hff 3
            simp only [Nat.add_zero] at g0 q0
            clear hcc hff hM e2 hRl
            go_wp2
            go_roundg (gk - 1)
            case measure => have := HI.out.2; omega
            case rel =>
              obtain ⟨s1, s2⟩ := HSEG.out
              rw [HCL.out] at s1
              have hk2 := HI.out.1.keep (by omega) (by rw [HX.out]; exact HQ.out)
              rw [HX.out] at hk2
              exact ⟨i + 1, j + 1, cur.set i x, by go_num, by go_num, ⟨hk2, by have := HI.out.2; omega⟩, ⟨s1⟩, ⟨World.grownBy.trans HG2.out s2⟩, ⟨HG1.out _ _ HJ2.out s2⟩⟩
      · have hltb := decide_eq_false hlt
        obtain ⟨d1, d2, d3⟩ := HI.out.1.done (by omega)
        have HD1 := Aside0.mk d1
        have hRl := HRr.out
        rw [← HCL.out] at hRl
        obtain ⟨ys, y1, y2, y3, y4⟩ := R_zeros (W0 := wr) (l.length - i) i wr cur hRl (by have := HCL.out; omega) (grown_of_below (Below.refl _ _) _)
        have hinn : ∀ o, o < l.length * 4 → (wr.cell? ⟨g, o, none⟩).isSome = true ∧ wr.frozen? ⟨g, o, none⟩ = false := fun o ho => by
          obtain ⟨c, hcl, _, hcc, hff⟩ := Kd.R_elem hRl z40 ((o / 4 : Nat) : Int) (by omega) (by have := HCL.out; omega)
          have e2 : (k40 : Kd S40).sz = 4 := rfl
          rw [e2] at hcl hcc hff
          rw [Int.toNat_natCast] at hcc hff
          have h1 := hcc (o % 4) (c[o % 4]'(by omega)) (List.getElem?_eq_getElem (by omega))
          have h2 := hff (o % 4)
          rw [(by omega : o / 4 * 4 + o % 4 = o)] at h1 h2
          exact ⟨by rw [h1]; rfl, h2⟩
        have hclr := fun ty => run_clear40 wr ty g (i * 4) (l.length - i) (cap - i) (by omega) (fun j hj => (hinn _ (by omega)).1) (fun j hj => (hinn _ (by omega)).2)
        have Y2 := Aside0.mk y2
        have Y3 := Aside0.mk y3
        have Y4 := Aside0.mk y4
        have Y1 := Aside0.mk y1
        have HD3 := Aside0.mk d3
        have hncap : ¬ (cap = i) := by omega
        have hi1 : i ≤ cap := by omega
        have hi2 : i ≤ l.length := by omega
        have HI2 := Aside0.mk hcl
        clear hRl hinn y1 y2 y3 y4 d1 d3 hcl
        go_wp2
        go_ret
        refine ⟨_, rfl, rfl, ?_, World.grownBy.trans HGr.out Y4.out, HG1.out _ _ HJr.out Y4.out⟩
        have h := Kd.R_take Y3.out (m := i) (by have := Y1.out; have := HCL.out; omega)
        rw [Y2.out, HD1.out] at h
        exact h
set_option maxHeartbeats 1000000 in
theorem del0_29 (A : Option Addr) (c : Nat) (b0 : Nat) (w : World) :
    Calls Try.prog 26 #[.slice A 0 c, .func (.func 29) #[] #[.pointer (some ⟨b0, 0, none⟩)]] w fun e w' => e = .returned (.slice A 0 c) ∧ Below w.heap.size w w' := by
  have HI := idx_29 A c [] (fun _ => false) b0 (fun _ => True) w (show Kd.C k40 w A 0 ([] : List S40) from ⟨rfl, by simp, fun h => absurd h (by simp)⟩) (Nat.zero_le _) trivial (fun _ _ _ _ => trivial) (fun x W hx _ => by cases hx)
  have e1 : idxN (fun _ => false) ([] : List S40) 0 = -1 := rfl
  rw [e1] at HI
  go_enter Try.func26, Try.ntmps26
  go_wp2_with (go_at_call 33; refine HI.mono ?_; rintro e w1 ⟨rfl, hb, _⟩)
  go_ret
  exact ⟨rfl, hb⟩
/-- slices.DeleteFunc at this closure, a row of the call's own, which is not empty. -/
def Del27 (p : S40 → Bool) (l : List S40) (J : World → Prop) (w : World) (base : Nat) (ok : Nat → Prop) (g : Nat) (e : Ending) (w' : World) : Prop :=
  ∃ v : Value, e = .returned v ∧ v.ownBlock = some g ∧ Kd.R k40 40 w' base ok v (keepB p l) ∧ w.grownBy w' (some g) ∧ J w'
set_option maxHeartbeats 4000000 in
set_option maxRecDepth 100000 in
theorem del_27 (g cap : Nat) (l : List S40) (p : S40 → Bool) (b0 : Nat) (J : World → Prop) (base : Nat) (ok : Nat → Prop) (w : World) (hr : Kd.R k40 40 w base ok (.slice (some ⟨g, 0, none⟩) l.length cap) l) (hJ : J w)
    (HJ : ∀ W W' : World, J W → Below W.heap.size W W' → J W') (HG : ∀ W W' : World, J W → W.grownBy W' (some g) → J W') (HP : ∀ (x : S40) (W : World), x ∈ l → J W → Calls Try.prog 27 #[.agg #[.string x.f0, .int .u64 x.f1.f0, .int .u64 x.f1.f1, .bool x.f2], .pointer (some ⟨b0, 0, none⟩)] W fun e w' => e = .returned (.bool (p x)) ∧ Below W.heap.size W w') :
    Calls Try.prog 26 #[.slice (some ⟨g, 0, none⟩) l.length cap, .func (.func 27) #[] #[.pointer (some ⟨b0, 0, none⟩)]] w (Del27 p l J w base ok g) := by
  obtain ⟨hn, hc, hC⟩ := Kd.R_reads' hr
  have HL : l.length ≤ 9223372036854775807 := Kd.C_max hC
  have HI := idx_27 (some ⟨g, 0, none⟩) cap l p b0 J w hC hc hJ HJ HP
  have HR := Aside0.mk hr
  have HP0 := Aside0.mk HP
  have HJ1 := Aside0.mk HJ
  have HG1 := Aside0.mk HG
  clear hr hJ HP HJ HG hC hn
  rcases idxN_spec (p := p) l 0 with ⟨e1, ha⟩ | ⟨k, hk, e1, ha, x0, hx0, hp0⟩
  · rw [e1] at HI
    have HK := Aside0.mk (keep_all ha)
    clear ha e1
    go_enter Try.func26, Try.ntmps26
    go_wp2_with (go_at_call 33; refine HI.mono ?_; rintro e w1 ⟨rfl, hb, hj⟩; have HB := Aside0.mk hb; have HJ2 := Aside0.mk hj; clear hb hj)
    go_ret
    exact ⟨_, rfl, rfl, by rw [HK.out]; exact Kd.R_below HR.out HB.out, grown_of_below HB.out _, HJ2.out⟩
  · have e2 : idxN p l 0 = (k : Int) := by rw [e1]; omega
    rw [e2] at HI
    have HS := Aside0.mk (Kept.start hk ha hx0 hp0)
    have hne1 : ((k : Int) == -1) = false := beq_eq_false_iff_ne.2 (by omega)
    have HKL := Aside0.mk hk
    have hk9 : k < 9223372036854775807 := by omega
    clear ha e1 e2 hx0 hp0 hk
    go_enter Try.func26, Try.ntmps26
    go_wp2_with (go_at_call 33; refine HI.mono ?_; rintro e w1 ⟨rfl, hb, hj⟩; have HB := Aside0.mk hb; have HJ2 := Aside0.mk hj; clear hb hj)
    go_loopg [5, 6, 7] l.length (fun gg v5 v6 v7 wr => ∃ (i j : Nat) (cur : List S40), v5 = .int .i64 (i : Int) ∧ v6 = .int .i64 (j : Int) ∧ Aside0 (Kept p l cur i j ∧ l.length - j ≤ gg) ∧ Aside0 (Kd.R k40 40 wr base ok (.slice (some ⟨g, 0, none⟩) l.length cap) cur) ∧ Aside0 (w.grownBy wr (some g)) ∧ Aside0 (J wr))
    case atStart =>
      exact ⟨k, k + 1, l, rfl, by go_num, ⟨HS.out, by have := HKL.out; omega⟩, ⟨Kd.R_below HR.out HB.out⟩, ⟨grown_of_below HB.out _⟩, HJ2⟩
    case round =>
      clear HB HJ2 HS HI hne1
      obtain ⟨i, j, cur, rfl, rfl, HI, HRr, HGr, HJr⟩ := hrel
      have hjl := HI.out.1.jl
      have hij := HI.out.1.ij
      have hcl := HI.out.1.len
      have HCL := Aside0.mk hcl
      by_cases hlt : (j : Int) < l.length
      · have hltb := decide_eq_true hlt
        obtain ⟨ha1, ha2, hC⟩ := Kd.R_reads' HRr.out
        obtain ⟨ad, had, f0, f1, f2, f3⟩ := at_T40 hC (j : Int) (by omega) (by omega)
        obtain rfl := (Option.some.inj had).symm
        simp only [Int.toNat_natCast, add_plain] at f0 f1 f2 f3
        have hget := HI.out.1.get (by omega)
        obtain ⟨x, hx⟩ : ∃ x, rd_T40 l (j : Int) = x := ⟨_, rfl⟩
        have HX := Aside0.mk hx
        have HM := Aside0.mk (hx ▸ rd_mem l j (by omega))
        rw [hget, hx] at f0 f1 f2 f3
        clear hx hget hC had hcl ha1 ha2
        go_wp2_with fail
        refine (HP0.out x _ HM.out (HJ1.out _ _ HJr.out (below_alloc (Below.refl _ _) _))).mono ?_
        rintro e w2 ⟨rfl, hb⟩
        have HB2 := Aside0.mk (below_call (below_alloc (Below.refl wr.heap.size wr) _) hb)
        have HR2 := Aside0.mk (Kd.R_below HRr.out HB2.out)
        have HG2 := Aside0.mk (World.grownBy.trans HGr.out (grown_of_below HB2.out (some g)))
        have HJ2 := Aside0.mk (HJ1.out _ _ HJr.out HB2.out)
        have k7 := blk_below (blk_new wr (.cells #[.string x.f0, .int .u64 x.f1.f0, .int .u64 x.f1.f1, .bool x.f2] 40)) hb
        have K7 := Aside0.mk k7
        have c7 := fun o => blk_cell k7 o
        have z7 := blk_lt k7
        clear hb k7 f0 f1 f2 f3
        cases hp : p x with
        | true =>
          have HQ := Aside0.mk hp
          clear hp
          go_wp2
          go_roundg (gk - 1)
          case measure => have := HI.out.2; omega
          case rel => exact ⟨i, j + 1, cur, rfl, by go_num, ⟨HI.out.1.drop (by omega) (by rw [HX.out]; exact HQ.out), by have := HI.out.2; omega⟩, HR2, HG2, HJ2⟩
        | false =>
          have HQ := Aside0.mk hp
          clear hp
          have hRl := HR2.out
          rw [← HCL.out] at hRl
          obtain ⟨c, hcl, hM, hcc, hff⟩ := Kd.R_elem hRl z40 (i : Int) (by omega) (by have := HCL.out; omega)
          have e2 : (k40 : Kd S40).sz = 4 := rfl
          rw [e2] at hcl hcc hff
          simp only [Int.toNat_natCast] at hcc hff
          have HSEG := Aside0.mk (Kd.R_seg (x' := x) (okp := fun _ => False) (seg := [.string x.f0, .int .u64 x.f1.f0, .int .u64 x.f1.f1, .bool x.f2]) (j := 0) hRl (i : Int) (by omega) (by have := HCL.out; omega) hcl (by simpa [e2] using hcc) (by show 0 + 4 ≤ 4; omega) (by
            have e : c.drop (0 + 4) = [] := List.drop_eq_nil_of_le (by rw [hcl]; exact Nat.le_refl _)
            rw [List.take_zero, List.nil_append]
            show Kd.M k40 w2 base _ x (_ ++ c.drop (0 + 4))
            rw [e, List.append_nil]
            exact k40_mkM w2 base _ x) (fun _ hk => hk.elim))
          match c, hcl with
          | [c0, c1, c2, c3], _ =>
            have g0 := hcc 0 c0 rfl
            have g1 := hcc 1 c1 rfl
            have g2 := hcc 2 c2 rfl
            have g3 := hcc 3 c3 rfl
            have q0 := hff 0
            have q1 := hff 1
            have q2 := hff 2
            have q3 := hff 3
            simp only [Nat.add_zero] at g0 q0
            clear hcc hff hM e2 hRl
            go_wp2
            go_roundg (gk - 1)
            case measure => have := HI.out.2; omega
            case rel =>
              obtain ⟨s1, s2⟩ := HSEG.out
              rw [HCL.out] at s1
              have hk2 := HI.out.1.keep (by omega) (by rw [HX.out]; exact HQ.out)
              rw [HX.out] at hk2
              exact ⟨i + 1, j + 1, cur.set i x, by go_num, by go_num, ⟨hk2, by have := HI.out.2; omega⟩, ⟨s1⟩, ⟨World.grownBy.trans HG2.out s2⟩, ⟨HG1.out _ _ HJ2.out s2⟩⟩
      · have hltb := decide_eq_false hlt
        obtain ⟨d1, d2, d3⟩ := HI.out.1.done (by omega)
        have HD1 := Aside0.mk d1
        have hRl := HRr.out
        rw [← HCL.out] at hRl
        obtain ⟨ys, y1, y2, y3, y4⟩ := R_zeros (W0 := wr) (l.length - i) i wr cur hRl (by have := HCL.out; omega) (grown_of_below (Below.refl _ _) _)
        have hinn : ∀ o, o < l.length * 4 → (wr.cell? ⟨g, o, none⟩).isSome = true ∧ wr.frozen? ⟨g, o, none⟩ = false := fun o ho => by
          obtain ⟨c, hcl, _, hcc, hff⟩ := Kd.R_elem hRl z40 ((o / 4 : Nat) : Int) (by omega) (by have := HCL.out; omega)
          have e2 : (k40 : Kd S40).sz = 4 := rfl
          rw [e2] at hcl hcc hff
          rw [Int.toNat_natCast] at hcc hff
          have h1 := hcc (o % 4) (c[o % 4]'(by omega)) (List.getElem?_eq_getElem (by omega))
          have h2 := hff (o % 4)
          rw [(by omega : o / 4 * 4 + o % 4 = o)] at h1 h2
          exact ⟨by rw [h1]; rfl, h2⟩
        have hclr := fun ty => run_clear40 wr ty g (i * 4) (l.length - i) (cap - i) (by omega) (fun j hj => (hinn _ (by omega)).1) (fun j hj => (hinn _ (by omega)).2)
        have Y2 := Aside0.mk y2
        have Y3 := Aside0.mk y3
        have Y4 := Aside0.mk y4
        have Y1 := Aside0.mk y1
        have HD3 := Aside0.mk d3
        have hncap : ¬ (cap = i) := by omega
        have hi1 : i ≤ cap := by omega
        have hi2 : i ≤ l.length := by omega
        have HI2 := Aside0.mk hcl
        clear hRl hinn y1 y2 y3 y4 d1 d3 hcl
        go_wp2
        go_ret
        refine ⟨_, rfl, rfl, ?_, World.grownBy.trans HGr.out Y4.out, HG1.out _ _ HJr.out Y4.out⟩
        have h := Kd.R_take Y3.out (m := i) (by have := Y1.out; have := HCL.out; omega)
        rw [Y2.out, HD1.out] at h
        exact h
set_option maxHeartbeats 1000000 in
theorem del0_27 (A : Option Addr) (c : Nat) (b0 : Nat) (w : World) :
    Calls Try.prog 26 #[.slice A 0 c, .func (.func 27) #[] #[.pointer (some ⟨b0, 0, none⟩)]] w fun e w' => e = .returned (.slice A 0 c) ∧ Below w.heap.size w w' := by
  have HI := idx_27 A c [] (fun _ => false) b0 (fun _ => True) w (show Kd.C k40 w A 0 ([] : List S40) from ⟨rfl, by simp, fun h => absurd h (by simp)⟩) (Nat.zero_le _) trivial (fun _ _ _ _ => trivial) (fun x W hx _ => by cases hx)
  have e1 : idxN (fun _ => false) ([] : List S40) 0 = -1 := rfl
  rw [e1] at HI
  go_enter Try.func26, Try.ntmps26
  go_wp2_with (go_at_call 33; refine HI.mono ?_; rintro e w1 ⟨rfl, hb, _⟩)
  go_ret
  exact ⟨rfl, hb⟩
end Go.Proofs.Ytgmflfbhifdacaa.Pr
