/- pack.several at pack.TakeNum, pack.TakeNums: what they compute, and that they do. Conditions: none. -/
import Derived.Test.YtfjhlcbpogihmaaGNoteBackPr16
import Derived.Test.YtfjhlcbpogihmaaKNoteBack1
namespace Go.Proofs.Ytfjhlcbpogihmaa.Pr
open Go.RowKit Go.Proofs.YtfjhlcbpogihmaaW.PrintWords Go.Proofs.YtfjhlcbpogihmaaW.PrintLast Go.Proofs.YtfjhlcbpogihmaaW.PrintMore
open Go.Proofs.Ytfjhlcbpogihmaa.Hnd
attribute [local go_sem] setCell_drewN_ alloc_drewN_
set_option linter.unusedVariables false
set_option linter.unusedSimpArgs false
/-- So many numbers that begin a text, behind those that were taken. -/
def severalF (k : Nat) : Nat → ByteArray → List Int → Option (List Int × ByteArray × Int)
  | 0, s, out => some (out, s, 0)
  | n + 1, s, out => (pack_TakeNum.f k s).bind fun b => if b.2.2 = 0 then (if out.length < 17592186044415 then severalF k n b.2.1 (out ++ [b.1]) else none) else some ([], (⟨#[]⟩ : ByteArray), b.2.2)
def inU (x : Int) : Bool := decide (0 ≤ x) && decide (x < 18446744073709551616)
def pack_TakeNums.f (k : Nat) (a0 : ByteArray) (a1 : Int) : Option (List Int × ByteArray × Int) :=
  (pack_TakeNum.f k a0).bind fun b => if inU b.1 = true then (if b.2.2 = 0 then (if a1 < 0 then some ([], (⟨#[]⟩ : ByteArray), 4) else if b.1 > IntKind.u64.wrap a1 then some ([], (⟨#[]⟩ : ByteArray), 4) else severalF k b.1.toNat b.2.1 []) else some ([], (⟨#[]⟩ : ByteArray), b.2.2)) else none
theorem infoU8s : (Try.prog.info? 25).map (fun i => (i.zero, i.size, i.bytes)) = some (some (.int .u64 0), 1, 8) := by kernel_rfl
set_option maxHeartbeats 4000000 in
set_option maxRecDepth 100000 in
theorem several_calls (k : Nat) (s0 : ByteArray) (n : Nat) (hn : (n : Int) < 18446744073709551616) (r1 : List Int) (r2 : ByteArray) (r3 : Int) (w : World) (h : severalF k n s0 [] = some (r1, r2, r3)) :
    Calls Try.prog 94 #[.string s0, .int .u64 (n : Int), .func (.func 92) #[] #[]] w fun e w' => ∃ v0_ : Value, e = .returned (.tuple #[v0_, .string r2, .int .i64 r3]) ∧ Kd.R (Kd.int .u64) 25 w' w.heap.size (fun _ => True) v0_ r1 ∧ Below w.heap.size w w' := by
  have HF := Aside0.mk h
  have HN := Aside0.mk hn
  clear h hn
  go_enter Try.func94, Try.ntmps94
  go_wp2_with fail
  go_loopg [0, 9, 10, 11, 12, 14] n (fun g v0 v9 v10 v11 v12 v14 wr => ∃ (i : Nat) (s : ByteArray) (out : List Int), v0 = .string s ∧ v14 = .int .u64 (i : Int) ∧ Aside0 (i ≤ n ∧ n - i ≤ g) ∧ Aside0 (severalF k (n - i) s out = some (r1, r2, r3)) ∧ Aside0 (Kd.R (Kd.int .u64) 25 wr w.heap.size (fun _ => True) v9 out) ∧ Aside0 (Below w.heap.size w wr))
  case atStart => exact ⟨0, s0, [], rfl, rfl, ⟨by omega⟩, HF, ⟨Kd.R_nil _ _ _ _ _⟩, ⟨Below.refl _ _⟩⟩
  case round =>
    clear HF
    obtain ⟨i, s, out, rfl, rfl, HI, HT, HO, HB⟩ := hrel
    by_cases hlt : (i : Int) < (n : Int)
    · have hltb := decide_eq_true hlt
      have hT := HT.out
      rw [show n - i = (n - (i + 1)) + 1 from by omega] at hT
      unfold severalF at hT
      replace hT := Option.bind_eq_some_iff.mp hT
      obtain ⟨⟨x, rest, er⟩, hN, hT⟩ := hT
      have HTN := Aside0.mk hN
      clear hN HT
      dsimp only at hT
      have hwi : IntKind.u64.wrap ((i : Int) + 1) = ((i + 1 : Nat) : Int) := by have := HN.out; simp [IntKind.wrap, IntKind.signed, IntKind.bits]; omega
      by_cases her : er = 0
      · rw [if_pos her] at hT
        by_cases hlen : out.length < 17592186044415
        rotate_left
        · rw [if_neg hlen] at hT; cases hT
        rw [if_pos hlen] at hT
        have HT := Aside0.mk hT
        have HLen := Aside0.mk hlen
        have hneb : (er != 0) = false := by rw [her]; rfl
        clear hT hlen
        subst her
        go_wp2_with fail
        refine (pack_TakeNum.calls k s x rest 0 _ HTN.out).mono ?_
        rintro e w1 ⟨rfl, hb0⟩
        have hb := hb0.below
        have HB1 := Aside0.mk (below_call HB.out hb)
        have HO1 := Aside0.mk (Kd.R_below HO.out hb)
        clear hb hb0
        obtain ⟨Ao, co, eo⟩ := Kd.R_slice HO1.out
        subst eo
        go_wp2_with ((with_reducible refine gate_builtin (b := .append) (xs := #[.tmp 26, .tmp 28]) rfl ?_); (try (refine gate_guard (by rfl) ?_; dsimp only)); at_builtin; refine Kd.R_append (Kd.int .u64) (w0 := w) w.heap.size rfl (.tmp 26) (.tmp 28) 79 25 (.int .u64 0) 8 rfl Try.underlying79 infoU8s rfl (by decide) (by omega) _ out x [.int .u64 x] (fun _ => True) (fun _ => False) rfl rfl ?aP (fun _ hk => hk.elim) ?aF ?aO ?aB ?aS ?aL ?_; (case aP => exact rfl); (case aB => exact HB1.out); (case aF => exact (fun _ _ => trivial)); (case aO => exact HO1.out); (case aS => exact HB1.out.size); (case aL => have := HLen.out; omega); intro v4 w4 ho hb hg hat; have HO4 := Aside0.mk ho; have HB4 := Aside0.mk hb; clear ho hb hg hat)
        go_roundg (gk - 1)
        case measure => have := HI.out; omega
        case rel => exact ⟨i + 1, rest, out ++ [x], rfl, by first | rfl | (rw [hwi]), ⟨by have := HI.out; omega⟩, HT, HO4, HB4⟩
      · rw [if_neg her] at hT
        simp only [Option.some.injEq, Prod.mk.injEq] at hT
        obtain ⟨rfl, rfl, rfl⟩ := hT
        have hneb : (er != 0) = true := bne_iff_ne.mpr her
        go_wp2_with fail
        refine (pack_TakeNum.calls k s x rest er _ HTN.out).mono ?_
        rintro e w1 ⟨rfl, hb0⟩
        have HB1 := Aside0.mk (below_call HB.out (hb0.below))
        clear hb0
        go_wp2_with fail
        go_ret3
        exact ⟨_, rfl, Kd.R_nil _ _ _ _ _, HB1.out⟩
    · have hltb := decide_eq_false hlt
      have hie : i = n := by have := HI.out; omega
      have hT := HT.out
      rw [hie, Nat.sub_self] at hT
      unfold severalF at hT
      simp only [Option.some.injEq, Prod.mk.injEq] at hT
      obtain ⟨rfl, rfl, rfl⟩ := hT
      clear HT hie
      go_wp2_with fail
      go_ret3
      exact ⟨_, rfl, HO.out, HB.out⟩
set_option maxHeartbeats 4000000 in
set_option maxRecDepth 100000 in
theorem pack_TakeNums.calls (k : Nat) (a0 : ByteArray) (a1 : Int) (r1 : List Int) (r2 : ByteArray) (r3 : Int) (w : World) (h : pack_TakeNums.f k a0 a1 = some (r1, r2, r3)) :
    Calls Try.prog 83 #[.string a0, .int .i64 a1] w fun e w' => ∃ v0_ : Value, e = .returned (.tuple #[v0_, .string r2, .int .i64 r3]) ∧ Kd.R (Kd.int .u64) 25 w' w.heap.size (fun _ => True) v0_ r1 ∧ Below w.heap.size w w' := by
  unfold pack_TakeNums.f at h
  replace h := Option.bind_eq_some_iff.mp h
  obtain ⟨⟨x, rest, er⟩, hN, h⟩ := h
  dsimp only at h
  by_cases hx : inU x = true
  rotate_left
  · rw [if_neg hx] at h; cases h
  rw [if_pos hx] at h
  have HTN := Aside0.mk hN
  have HX := Aside0.mk hx
  clear hN hx
  by_cases her : er = 0
  · rw [if_pos her] at h
    have hneb : (er != 0) = false := by rw [her]; rfl
    subst her
    by_cases hm : a1 < 0
    · rw [if_pos hm] at h
      simp only [Option.some.injEq, Prod.mk.injEq] at h
      obtain ⟨rfl, rfl, rfl⟩ := h
      have hmb := decide_eq_true hm
      clear hm
      go_enter Try.func83, Try.ntmps83
      go_wp2_with fail
      refine (pack_TakeNum.calls k a0 x rest 0 _ HTN.out).mono ?_
      rintro e w1 ⟨rfl, hb0⟩
      have HB1 := Aside0.mk (hb0.below)
      clear hb0
      go_wp2_with fail
      go_ret3
      exact ⟨_, rfl, Kd.R_nil _ _ _ _ _, HB1.out⟩
    · rw [if_neg hm] at h
      have hmb := decide_eq_false hm
      by_cases hg : x > IntKind.u64.wrap a1
      · rw [if_pos hg] at h
        simp only [Option.some.injEq, Prod.mk.injEq] at h
        obtain ⟨rfl, rfl, rfl⟩ := h
        have hgb : decide (IntKind.u64.wrap a1 < x) = true := decide_eq_true hg
        have hgc : decide (x > IntKind.u64.wrap a1) = true := decide_eq_true hg
        clear hm hg
        go_enter Try.func83, Try.ntmps83
        go_wp2_with fail
        refine (pack_TakeNum.calls k a0 x rest 0 _ HTN.out).mono ?_
        rintro e w1 ⟨rfl, hb0⟩
        have HB1 := Aside0.mk (hb0.below)
        clear hb0
        go_wp2_with fail
        go_ret3
        exact ⟨_, rfl, Kd.R_nil _ _ _ _ _, HB1.out⟩
      · rw [if_neg hg] at h
        have hgb : decide (IntKind.u64.wrap a1 < x) = false := decide_eq_false hg
        have hgc : decide (x > IntKind.u64.wrap a1) = false := decide_eq_false hg
        clear hm hg
        have hx := HX.out
        unfold inU at hx
        rw [Bool.and_eq_true, decide_eq_true_iff, decide_eq_true_iff] at hx
        have HS := Aside0.mk h
        obtain ⟨n, hn⟩ : ∃ n : Nat, x = (n : Int) := ⟨x.toNat, by omega⟩
        subst hn
        rw [Int.toNat_natCast] at HS
        have HN := Aside0.mk hx.2
        clear h hx
        go_enter Try.func83, Try.ntmps83
        go_wp2_with fail
        refine (pack_TakeNum.calls k a0 (n : Int) rest 0 _ HTN.out).mono ?_
        rintro e w1 ⟨rfl, hb0⟩
        have HB1 := Aside0.mk (hb0.below)
        clear hb0
        go_wp2_with fail
        refine (several_calls k rest n HN.out r1 r2 r3 _ HS.out).mono ?_
        rintro e w2 ⟨v2, rfl, ho, hb⟩
        have HB2 := Aside0.mk (below_call HB1.out hb)
        have HO2 := Aside0.mk (Kd.R_lower ho HB1.out.size)
        clear ho hb
        go_wp2_with fail
        go_ret3
        exact ⟨_, rfl, HO2.out, HB2.out⟩
  · rw [if_neg her] at h
    simp only [Option.some.injEq, Prod.mk.injEq] at h
    obtain ⟨rfl, rfl, rfl⟩ := h
    have hneb : (er != 0) = true := bne_iff_ne.mpr her
    go_enter Try.func83, Try.ntmps83
    go_wp2_with fail
    refine (pack_TakeNum.calls k a0 x rest er _ HTN.out).mono ?_
    rintro e w1 ⟨rfl, hb0⟩
    have HB1 := Aside0.mk (hb0.below)
    clear hb0
    go_wp2_with fail
    go_ret3
    exact ⟨_, rfl, Kd.R_nil _ _ _ _ _, HB1.out⟩
end Go.Proofs.Ytfjhlcbpogihmaa.Pr
