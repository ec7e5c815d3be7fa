/- lock.Right: what it computes, and that it does. Conditions: none. -/
import Derived.Test.YtgmflfbhifdacaaHandFn
import Derived.Carry
namespace Go.Proofs.Ytgmflfbhifdacaa.Pr
open Go.RowKit Go.Proofs.YtgmflfbhifdacaaW.PrintWords Go.Proofs.YtgmflfbhifdacaaW.PrintLast Go.Proofs.YtgmflfbhifdacaaW.PrintMore
open Go.Proofs.Ytgmflfbhifdacaa.Hnd
attribute [local go_sem] setCell_drewN_ alloc_drewN_
set_option linter.unusedVariables false
set_option linter.unusedSimpArgs false
/-- A transaction and a key, as a map's key. -/
def enc61 (x : S25 × ByteArray) : Value := .agg #[.int .u64 x.1.f0, .int .u64 x.1.f1, .string x.2]
def okPl (x : S25 × ByteArray) : Prop := okTx x.1 ∧ x.2.size ≤ maxLen
theorem enc61_inj (x y : S25 × ByteArray) (hx : okPl x) (hy : okPl y) (h : enc61 x = enc61 y) : x = y := by
  obtain ⟨⟨_, _⟩, _⟩ := x
  obtain ⟨⟨_, _⟩, _⟩ := y
  simp [enc61] at h
  obtain ⟨rfl, rfl, rfl⟩ := h
  rfl
instance : DecidableEq ByteArray := fun a b => if h : a.data = b.data then .isTrue (ByteArray.ext h) else .isFalse (fun e => h (by rw [e]))
theorem keyed61 : Go.Maps.Keyed Try.prog 61 := Go.Maps.Keyed.of_law (deep_law_laid laidOut (m := 4) (by decide) (of_decide_eq_true (by kernel_rfl)) (by kernel_rfl) (by kernel_rfl))
theorem key61 (x : S25 × ByteArray) (h : okPl x) : ∃ kl, keyOf Try.prog 61 (enc61 x) = some kl := by
  obtain ⟨⟨h0, h1⟩, h2⟩ := h
  have kt : Try.prog.keyType 61 = true := by kernel_rfl
  have c61 : Try.prog.cellsOf 61 = 3 := by kernel_rfl
  have c25 : Try.prog.cellsOf 25 = 2 := by kernel_rfl
  have c23 : Try.prog.cellsOf 23 = 1 := by kernel_rfl
  have c9 : Try.prog.cellsOf 9 = 1 := by kernel_rfl
  have fm : (enc61 x).formed Try.prog 61 = true := by
    unfold enc61
    simp [Value.formed, Try.underlying61, c61]
  have e1 : ∀ d n, (Lit.int .u64 n).wf = true → Try.prog.keyLits (d + 1) 23 [.int .u64 n] = some [.int .u64 n] := fun d n hn => by
    simp [Program.keyLits, Try.underlying23, hn]
  have e9 : ∀ d, ∃ ls, Try.prog.keyLits (d + 1) 9 [.string x.2] = some ls := fun d => by
    simp [Program.keyLits, Try.underlying9, h2]
  have e2 : ∀ d, ∃ ls, Try.prog.keyLits (d + 2) 25 [.int .u64 x.1.f0, .int .u64 x.1.f1] = some ls := fun d => by
    unfold Program.keyLits
    rw [Try.underlying25]
    simp [c25, c23, e1 d _ h0, e1 d _ h1]
  have e3 : ∀ d, ∃ ls, Try.prog.keyLits (d + 3) 61 [.int .u64 x.1.f0, .int .u64 x.1.f1, .string x.2] = some ls := fun d => by
    obtain ⟨l2, hl2⟩ := e2 d
    obtain ⟨l9, hl9⟩ := e9 (d + 1)
    unfold Program.keyLits
    rw [Try.underlying61]
    simp [c61, c25, c9, hl2, hl9]
  obtain ⟨d, hd⟩ : ∃ d, Try.prog.types.size + 1 = d + 3 := ⟨Try.prog.types.size - 2, by have : 1 < Try.prog.types.size := of_decide_eq_true (by kernel_rfl); omega⟩
  obtain ⟨ls, hl⟩ := e3 d
  unfold keyOf
  rw [Try.underlying61]
  simp only [kt, fm, Bool.and_self, if_true, hd]
  unfold enc61
  simp only [Value.cells]
  rw [hl]
  exact ⟨_, rfl⟩
abbrev Set59 := MapB Try.prog 61 4 enc61 okPl
theorem look59 {w : World} {b n : Nat} {S : S25 × ByteArray → Bool} (h : Set59 w b n S) (x : S25) (s : ByteArray) (hx : okPl (x, s)) : (Instr.lookup 59 (.map (some b)) (.agg #[.int .u64 x.f0, .int .u64 x.f1, .string s]) false).run Try.prog w = .ok (.bool (S (x, s))) w := by
  obtain ⟨kl, hk⟩ := key61 (x, s) hx
  exact MapB.lookup h keyed61 Try.underlying59 Try.underlying4 (zero4 w) hx hk
/-- Is there one of that transaction and key? -/
def seenB (l : List S40) (x : S25 × ByteArray) : Bool := l.any fun y => decide ((y.f1, y.f0) = x)
def badB (l : List S40) (i : Nat) : Bool := seenB (l.take i) ((rd_T40 l (i : Int)).f1, (rd_T40 l (i : Int)).f0) || decide (idxN (p32 (rd_T40 l (i : Int))) l 0 ≥ 0)
def rightB (l : List S40) : Bool := (List.range l.length).all fun i => !(badB l i)
def okHb (x : S40) : Bool := (Lit.int .u64 x.f1.f0).wf && ((Lit.int .u64 x.f1.f1).wf && decide (x.f0.size ≤ maxLen))
theorem okHb_pl {x : S40} (h : okHb x = true) : okPl (x.f1, x.f0) := by
  simp [okHb] at h
  exact ⟨⟨h.1, h.2.1⟩, h.2.2⟩
def lock_Right.f (l0 : List S40) : Option Bool := if l0.all okHb = true then some (rightB l0) else none
theorem right_no (l : List S40) (i : Nat) (hi : i < l.length) (h : badB l i = true) : rightB l = false := by
  unfold rightB
  rw [List.all_eq_false]
  exact ⟨i, List.mem_range.2 hi, by simp [h]⟩
theorem right_yes (l : List S40) (h : ∀ i, i < l.length → badB l i = false) : rightB l = true := by
  unfold rightB
  rw [List.all_eq_true]
  exact fun i hi => by simp [h i (List.mem_range.1 hi)]
theorem seen_next (l : List S40) (i : Nat) (hi : i < l.length) : (fun y => if y = ((rd_T40 l (i : Int)).f1, (rd_T40 l (i : Int)).f0) then true else seenB (l.take i) y) = seenB (l.take (i + 1)) := by
  funext y
  unfold seenB
  rw [List.take_succ_eq_append_getElem hi, List.any_append, rd_at l i hi]
  by_cases h : y = (l[i].f1, l[i].f0)
  · subst h
    simp
  · rw [if_neg h]
    have : decide ((l[i].f1, l[i].f0) = y) = false := decide_eq_false (fun e => h e.symm)
    simp [this]
set_option maxHeartbeats 4000000 in
set_option maxRecDepth 100000 in
theorem lock_Right.calls (A0 : Option Addr) (c0 : Nat) (l0 : List S40) (r : Bool) (w : World) (hr0 : Kd.C k40 w A0 l0.length l0) (hc0 : l0.length ≤ c0) (h : lock_Right.f l0 = some r) :
    Calls Try.prog 20 #[.slice A0 l0.length c0] w fun e w' => e = .returned (.bool r) ∧ Below w.heap.size w w' := by
  unfold lock_Right.f at h
  by_cases hs : l0.all okHb = true
  rotate_left
  · rw [if_neg hs] at h; cases h
  rw [if_pos hs] at h
  have HF := Aside0.mk (Option.some.inj h)
  clear h
  have HOK := Aside0.mk (List.all_eq_true.1 hs)
  have HR := Aside0.mk hr0
  have HL : l0.length ≤ 9223372036854775807 := hr0.2.1
  have HC := Aside0.mk hc0
  clear hs hr0 hc0
  have hmm := @run_makeMap Try.prog
  go_enter Try.func20, Try.ntmps20
  go_wp2_with fail
  go_loopg [9] l0.length (fun g v9 wr => ∃ (i : Nat), v9 = .int .i64 (i : Int) ∧ Aside0 (i ≤ l0.length ∧ l0.length - i ≤ g) ∧ Aside0 (∀ j, j < i → badB l0 j = false) ∧ Aside0 (Set59 wr w.heap.size i (seenB (l0.take i))) ∧ Aside0 (Below w.heap.size w wr))
  case atStart => exact ⟨0, rfl, ⟨by omega⟩, ⟨fun j hj => by omega⟩, ⟨MapB.made w⟩, ⟨below_alloc (Below.refl _ _) _⟩⟩
  case round =>
    clear hmm
    obtain ⟨i, rfl, HI, HT, HM, HB⟩ := hrel
    by_cases hlt : (i : Int) < l0.length
    · have hltb := decide_eq_true hlt
      have hil : i < l0.length := by omega
      obtain ⟨ad, rfl, e0, e1, e2, e3⟩ := at_T40 HR.out (i : Int) (by omega) hlt
      simp only [Int.toNat_natCast] at e0 e1 e2 e3
      replace e0 := (HB.out.cell (World.block_lt_of_cell? w _ e0)).trans e0
      replace e1 := (HB.out.cell (World.block_lt_of_cell? w _ e1)).trans e1
      replace e2 := (HB.out.cell (World.block_lt_of_cell? w _ e2)).trans e2
      replace e3 := (HB.out.cell (World.block_lt_of_cell? w _ e3)).trans e3
      obtain ⟨x, hx⟩ : ∃ x, rd_T40 l0 (i : Int) = x := ⟨_, rfl⟩
      have HX := Aside0.mk hx
      have hok := okHb_pl (HOK.out _ (hx ▸ rd_mem l0 i hil))
      rw [hx] at e0 e1 e2 e3
      clear hx
      have hl := look59 (MapB.alloc HM.out (.cells #[.string x.f0, .int .u64 x.f1.f0, .int .u64 x.f1.f1, .bool x.f2] 40)) x.f1 x.f0 hok
      have HOKX := Aside0.mk hok
      clear hok
      have HCI := Aside0.mk (fun W hc hj => idx_32 (some ad) c0 l0 (p32 x) wr.heap.size (fun W => W.heap[wr.heap.size]? = some (.cells #[.string x.f0, .int .u64 x.f1.f0, .int .u64 x.f1.f1, .bool x.f2] 40 (0, 0))) W hc HC.out hj (fun W W' hj hb => blk_below hj hb) (fun y W _ hj => cl32 y x wr.heap.size W hj))
      cases hsn : seenB (l0.take i) (x.f1, x.f0) with
      | true =>
        have HSN := Aside0.mk hsn
        rw [hsn] at hl
        clear hsn
        go_wp2
        go_ret
        refine ⟨?_, below_alloc HB.out _⟩
        rw [← HF.out, right_no l0 i hil (by unfold badB; rw [HX.out, HSN.out]; rfl)]
        rfl
      | false =>
        have HSN := Aside0.mk hsn
        rw [hsn] at hl
        clear hsn
        obtain ⟨q, hq⟩ : ∃ q, idxN (p32 x) l0 0 = q := ⟨_, rfl⟩
        have HQ := Aside0.mk hq
        rw [hq] at HCI
        clear hq
        have hbad : badB l0 i = decide (q ≥ 0) := by
          unfold badB
          rw [HX.out, HSN.out, HQ.out]
          rfl
        have HBAD := Aside0.mk hbad
        clear hbad
        by_cases hq0 : q ≥ 0
        · have hq0b := decide_eq_true hq0
          go_wp2_with (first | (go_at_call 33; refine (HCI.out _ (Kd.C_alloc (Kd.C_below HR.out HB.out) _) (blk_new _ _)).mono ?_; rintro e w2 ⟨rfl, hb, _⟩; have HB2 := Aside0.mk (below_call (below_alloc HB.out _) hb); clear hb) | go_in)
          go_ret
          refine ⟨?_, HB2.out⟩
          rw [← HF.out, right_no l0 i hil (HBAD.out.trans hq0b)]
          rfl
        · have hq0b := decide_eq_false hq0
          go_wp2_with (first
            | (go_at_call 33; refine (HCI.out _ (Kd.C_alloc (Kd.C_below HR.out HB.out) _) (blk_new _ _)).mono ?_; rintro e w2 ⟨rfl, hb, hk5⟩; have HB2 := Aside0.mk (below_call (below_alloc HB.out _) hb); have HM2 := Aside0.mk (MapB.below (MapB.alloc HM.out _) hb); have c5 := (fun o => blk_cell hk5 o); have z5 := blk_lt hk5; clear hb hk5)
            | (at_mapUpdate; obtain ⟨kl, hkl⟩ := key61 (x.f1, x.f0) HOKX.out; refine wpList_mapUpdate_B _ rfl _ _ _ 59 rfl 61 4 keyed61 enc61_inj Try.underlying59 Try.underlying4 w.heap.size i rfl HM2.out ?hn (x.f1, x.f0) HOKX.out kl rfl true rfl hkl ?_; (case hn => (unfold maxLen; omega)); intro w3 hm3 hg3; have HM3 := Aside0.mk hm3; have HG3 := Aside0.mk hg3; clear hm3 hg3 hkl)
            | go_in)
          go_roundg (gk - 1)
          case measure => have := HI.out; omega
          case rel =>
            refine ⟨i + 1, by go_num, ⟨by have := HI.out; omega⟩, ⟨fun j hj => ?_⟩, ⟨?_⟩, ⟨Below.grown HB2.out HG3.out HB2.out.size (fun k hk => by cases hk; exact Nat.le_refl _)⟩⟩
            · by_cases hji : j = i
              · subst hji
                exact HBAD.out.trans hq0b
              · exact HT.out j (by omega)
            · have h := HM3.out
              rw [← HX.out, seen_next l0 i hil] at h
              exact h
    · have hltb := decide_eq_false hlt
      go_wp2
      go_ret
      refine ⟨?_, HB.out⟩
      have hie : i = l0.length := by have := HI.out; omega
      rw [← HF.out, right_yes l0 (fun j hj => HT.out j (by omega))]
      rfl
end Go.Proofs.Ytgmflfbhifdacaa.Pr
