/- The law SealJoins: what it computes, and that it does. Conditions: none. -/
import Derived.Test.YtkkkpmobdaebgaaHandWhole2
import Derived.Test.YtkkkpmobdaebgaaPr1
import Derived.Test.YtkkkpmobdaebgaaPr2
namespace Go.Proofs.Ytkkkpmobdaebgaa.Pr
open Go.RowKit Go.Shelf Go.Proofs.YtkkkpmobdaebgaaW.PrintWords Go.Proofs.YtkkkpmobdaebgaaW.PrintLast Go.Proofs.YtkkkpmobdaebgaaW.PrintMore Go.Proofs.Ytkkkpmobdaebgaa.Hnd
attribute [local go_sem] Oper.semAt_some
set_option linter.unusedVariables false
set_option linter.unusedSimpArgs false
def joinsEnd (k : Nat) (l : List ByteArray) (more b : ByteArray) : Option Bool :=
  if b.size + more.size ≤ 4611686018427387904 then (allF k ((b ++ more).size + 1) (b ++ more)).bind fun L => if L.take l.length = l ∧ L.length < 4611686018427387904 then
    (allF k (more.size + 1) more).bind fun L2 => some (wholeN L == wrap64 ((b.size : Int) + wholeN L2)) else none else none
def joinsF (k : Nat) (l : List ByteArray) (more : ByteArray) : List ByteArray → ByteArray → Option Bool
  | [], b => joinsEnd k l more b
  | s :: r, b => (seal_Put.f s).bind fun q => if q.2 = 0 then (if b.size + q.1.size ≤ 4611686018427387904 then joinsF k l more r (b ++ q.1) else none) else some (q.2 == 4)
def ferrulelaw02_SealJoins.f (k : Nat) (l : List ByteArray) (more : ByteArray) : Option Bool :=
  ferrulelaw02_shown.f.bind fun up => if up = true ∧ l.length ≤ 4611686018427387904 then joinsF k l more l ⟨#[]⟩ else none
theorem joinsF_mono (k : Nat) (l : List ByteArray) (more : ByteArray) : ∀ r b, LeO (joinsF k l more r b) (joinsF (k + 1) l more r b)
  | [], b => LeO.ite (LeO.bind (allF_mono k _ _) (fun _ => LeO.ite (LeO.bind (allF_mono k _ _) (fun _ => LeO.refl _)) (LeO.refl _))) (LeO.refl _)
  | s :: r, b => LeO.bind (LeO.refl _) (fun _ => LeO.ite (LeO.ite (joinsF_mono k l more r _) (LeO.refl _)) (LeO.refl _))
theorem wrap64_in2 {x : Int} (h0 : -9223372036854775808 ≤ x) (h1 : x < 9223372036854775808) : wrap64 x = x := by
  simp [wrap64]
  omega
def intOf : Value → Nat
  | .int _ n => n.toNat
  | _ => 0
theorem ferrulelaw02_SealJoins.mono : ∀ a0 a1 k, LeO (ferrulelaw02_SealJoins.f k a0 a1) (ferrulelaw02_SealJoins.f (k + 1) a0 a1) := fun l more k =>
  LeO.bind (LeO.refl _) (fun _ => LeO.ite (joinsF_mono k l more _ _) (LeO.refl _))
set_option maxRecDepth 100000 in
set_option maxHeartbeats 4000000 in
theorem joins_in (k n : Nat) (hn : 5 ≤ n) (A0 : Option Addr) (c0 : Nat) (l : List ByteArray) (more : ByteArray) (r : Bool) (w : World) (hr0 : Kd.C Kd.string w A0 l.length l) (hc0 : l.length ≤ c0) (h : ferrulelaw02_SealJoins.f k l more = some r) :
    CallsIn Fence.wide n Try.prog 10 #[.slice A0 l.length c0, .string more] w fun e w' => e = .returned (.bool r) ∧ Below w.heap.size w w' := by
  have h1 : 1 ≤ n := by omega
  unfold ferrulelaw02_SealJoins.f at h
  obtain ⟨up, hS, h⟩ := Option.bind_eq_some_iff.mp h
  by_cases hup : up = true ∧ l.length ≤ 4611686018427387904
  rotate_left
  · rw [if_neg hup] at h; cases h
  rw [if_pos hup] at h
  obtain ⟨rfl, hll⟩ := hup
  have HF := Aside0.mk h
  have HS := Aside0.mk hS
  have HL := Aside0.mk hll
  clear h hS hll
  refine callsIn_of_wp_marks Try.func10 rfl trivial ?_ rfl
  simp only [Try.ntmps10, List.size_toArray, List.length_cons, List.length_nil, Nat.reduceAdd, Nat.reduceSub, Array.replicate_succ, Array.replicate_zero, List.push_toArray, List.append_toArray, List.nil_append, List.cons_append]
  gi_wp2
  refine ⟨trivial, ((callsIn_wide (n := n - 1)).2 (ferrulelaw02_shown.calls true _ HS.out)).mono ?_⟩
  rintro e w1 ⟨rfl, hb⟩
  have BL := Aside0.mk (blk_below (blk_alloc (blk_new w (.cells #[.slice A0 l.length c0] 41)) (.cells #[.bool false] 4)) hb)
  have BR := Aside0.mk (blk_below (blk_new (w.alloc (.cells #[.slice A0 l.length c0] 41)) (.cells #[.bool false] 4)) hb)
  have HB := Aside0.mk (below_call (below_alloc (below_alloc (Below.refl w.heap.size w) (.cells #[.slice A0 l.length c0] 41)) (.cells #[.bool false] 4)) hb)
  have HC := Aside0.mk (Kd.C_below hr0 HB.out)
  rw [World.size_alloc] at BR
  have hBR : (World.alloc w (.cells #[.slice A0 l.length c0] 41)).heap.size = w.heap.size + 1 := World.size_alloc _ _
  clear hb hr0 hBR
  gi_wp2
  gi_loopw [6, 7, 8, 9] (fun v6 v7 v8 v9 wr => ∃ (b : ByteArray) (i : Nat), v6 = .string b ∧ v7 = .int .i64 (i : Int) ∧ Aside0 (i ≤ l.length) ∧ Aside0 (joinsF k l more (l.drop i) b = some r) ∧ Aside0 (Below w1.heap.size w1 wr))
    (fun _ v7 _ _ _ => l.length - intOf v7)
  case atStart => exact ⟨_, 0, rfl, rfl, ⟨by omega⟩, HF, ⟨Below.refl _ _⟩⟩
  case round =>
    clear HF
    obtain ⟨b, i, rfl, rfl, HI, HT, HW⟩ := hrel
    have bl := blk_below BL.out HW.out
    have br := blk_below BR.out HW.out
    have y0 := blk_cell bl 0
    have y1 := blk_cell br 0
    have y2 := blk_frozen br 0
    by_cases hlt : (i : Int) < (l.length : Int)
    · have hltb := decide_eq_true hlt
      obtain ⟨ad, hA, e0⟩ := Kd.at_string (Kd.C_below HC.out HW.out) (i : Int) (by omega) hlt
      subst hA
      simp only [Int.toNat_natCast] at e0
      have hT := HT.out
      rw [List.drop_eq_getElem_cons (show i < l.length by omega)] at hT
      have hx : rdOf ByteArray.empty l (i : Int) = l[i] := by
        unfold rdOf
        simp [List.getD_eq_getElem?_getD, show i < l.length by omega]
      rw [← hx] at hT
      obtain ⟨x, hxx⟩ : ∃ x, rdOf ByteArray.empty l (i : Int) = x := ⟨_, rfl⟩
      rw [hxx] at hT e0
      unfold joinsF at hT
      replace hT := Option.bind_eq_some_iff.mp hT
      obtain ⟨⟨s, er⟩, hN, hT⟩ := hT
      dsimp only at hT
      clear hx hxx HT
      gi_wp2
      refine ⟨trivial, ((callsIn_wide (n := n - 1)).2 (seal_Put.calls x s er _ hN)).mono ?_⟩
      rintro e w2 ⟨rfl, hb⟩
      have HW1 := Aside0.mk (below_call HW.out hb)
      clear hb e0 bl br y0 y1 y2
      by_cases her : er = 0
      · rw [if_pos her] at hT
        by_cases hsz : b.size + s.size ≤ 4611686018427387904
        rotate_left
        · rw [if_neg hsz] at hT; cases hT
        rw [if_pos hsz] at hT
        have hneb : (er != 0) = false := by rw [her]; rfl
        subst her
        gi_wp2
        go_roundw
        case measure =>
          show l.length - intOf (.int .i64 (wrap64 ((i : Int) + 1))) < l.length - intOf (.int .i64 (i : Int))
          rw [wrap64_in2 (by omega) (by have := HL.out; omega)]
          simp only [intOf]
          omega
        case rel => exact ⟨b ++ s, i + 1, rfl, by rw [wrap64_in2 (by omega) (by have := HL.out; omega)]; rfl, ⟨by omega⟩, ⟨hT⟩, HW1⟩
      · rw [if_neg her] at hT
        obtain rfl := Option.some.inj hT
        have hneb : (er != 0) = true := bne_iff_ne.mpr her
        have br := blk_below BR.out HW1.out
        have y1 := blk_cell br 0
        have y2 := blk_frozen br 0
        gi_wp2
        refine ⟨_, by simp [results, Try.results10, go_sem, World.cell?_setCell_same _ _ _ y1], rfl, ?_⟩
        exact below_set (below_call HB.out HW1.out) (by omega)
    · have hltb := decide_eq_false hlt
      have hie : i = l.length := by have := HI.out; omega
      have hT := HT.out
      rw [hie, List.drop_length] at hT
      unfold joinsF joinsEnd at hT
      clear HT hie
      by_cases hsz : b.size + more.size ≤ 4611686018427387904
      rotate_left
      · rw [if_neg hsz] at hT; cases hT
      rw [if_pos hsz] at hT
      replace hT := Option.bind_eq_some_iff.mp hT
      obtain ⟨L, hL, hT⟩ := hT
      by_cases hp : L.take l.length = l ∧ L.length < 4611686018427387904
      rotate_left
      · rw [if_neg hp] at hT; cases hT
      rw [if_pos hp] at hT
      replace hT := Option.bind_eq_some_iff.mp hT
      obtain ⟨L2, hL2, hT⟩ := hT
      obtain rfl := Option.some.inj hT
      gi_wp2
      refine ⟨trivial, (all_in (n - 1) (b ++ more) _).mono ?_⟩
      rintro e w' ⟨rfl, rfl⟩
      gi_wp2
      have bV := World.alloc_heap_new wr (.cells #[.int .i64 0] 3)
      have bV := blk_alloc bV (.cells #[.string (b ++ more)] 9)
      have bS := World.alloc_heap_new (wr.alloc (.cells #[.int .i64 0] 3)) (.cells #[.string (b ++ more)] 9)
      simp only [World.size_alloc] at bS
      have HB0 := Aside0.mk (below_alloc (below_alloc HW.out (.cells #[.int .i64 0] 3)) (.cells #[.string (b ++ more)] 9))
      have hsz : ((wr.alloc (.cells #[.int .i64 0] 3)).alloc (.cells #[.string (b ++ more)] 9)).heap.size = wr.heap.size + 2 := by simp
      obtain ⟨W0, hW0⟩ : ∃ W0, ((wr.alloc (.cells #[.int .i64 0] 3)).alloc (.cells #[.string (b ++ more)] 9)) = W0 := ⟨_, rfl⟩
      rw [hW0] at bV bS HB0 hsz ⊢
      have hws := HW.out.size
      have hbs := blk_lt BR.out
      refine wpIn_rangeFunc_ownH rfl h1 (gf := 29) (lb := #[.pointer (some ⟨wr.heap.size + 1, 0, none⟩)]) rfl trivial (enters_of Try.func29 (by kernel_rfl) rfl)
        (all_stops k ((b ++ more).size + 1) (n - 1) (by omega) (wr.heap.size + 1) (b ++ more) L hL W0 bS)
        (fun _ _ => trivial) (fun _ _ _ _ _ _ _ _ => trivial) (Below.refl _ _) (fun _ => rfl)
        (fun pre W => W.heap[wr.heap.size]? = some (.cells #[.int .i64 (pre.length : Int)] 3 (0, 0)) ∧ Below wr.heap.size wr W)
        (fun c pre W => c = .ret ∧ ∃ j, j < pre.length ∧ j < l.length ∧ pre[j]? ≠ l[j]?)
        (fun (s : List ByteArray) A B row hs hg hr => ⟨blk_grown hs.1 hg (fun e => by have := (hr _ e.symm).1; omega), hs.2.grown hg hs.2.size (fun k e => by have := (hr _ e).1; omega)⟩)
        (fun _ _ _ _ _ hs _ _ => hs)
        ⟨bV, by rw [← hW0]; exact below_alloc (below_alloc (Below.refl _ _) _) _⟩
        (fun x a' W => a' = { tmps := #[.slice A0 l.length c0, .string more, .pointer (some ⟨w.heap.size, 0, none⟩), undef, .pointer (some ⟨w.heap.size + 1, 0, none⟩), .bool true, .string b, .int .i64 (i : Int), u8, u9, .pointer (some ⟨wr.heap.size, 0, none⟩), .string x, .bool true, .bool true, .bool false, .int .i64 (i : Int), .slice A0 l.length c0, .int .i64 (l.length : Int), .bool false, u19, u20, u21, u22, u23, u24, u25, u26, u27, u28, u29, u30, u31, u32, u33, u34, u35, .string b, .string more, .string (b ++ more), .func (.func 29) #[] #[.pointer (some ⟨wr.heap.size + 1, 0, none⟩)], .string x, undef, undef, undef, undef, undef, undef, undef, undef, undef, undef, undef, undef, undef, undef, undef, undef, undef, undef, undef, undef, undef, undef, undef, undef, undef, undef, undef, undef, undef, undef], defers := [] })
        (fun x a' s A B row hs hg hr => hs) ?assign ?body ?done ?stop
      case assign =>
        rintro l pre x W K hI hK
        gi_wp2
        exact hK _ _ ((KeepsOthers.refl _).from _) trivial hI rfl
      case body =>
        rintro lp pre x a' W hl ⟨r, hr⟩ ⟨i0, i1⟩ rfl hlt
        have hd : 1 ≤ n - 1 - 1 := by omega
        have bl := blk_below (blk_below BL.out HW.out) i1
        have br := blk_below (blk_below BR.out HW.out) i1
        have y0 := blk_cell i0 0
        have y1 := blk_frozen i0 0
        have y2 := blk_cell bl 0
        have y3 := blk_cell br 0
        have y4 := blk_frozen br 0
        by_cases hlt2 : (pre.length : Int) < (l.length : Int)
        · have hltb := decide_eq_true hlt2
          obtain ⟨ad, hA, e0⟩ := Kd.at_string (Kd.C_below (Kd.C_below HC.out HW.out) i1) (pre.length : Int) (by omega) hlt2
          subst hA
          simp only [Int.toNat_natCast] at e0
          obtain ⟨y, hy⟩ : ∃ y, rdOf ByteArray.empty l (pre.length : Int) = y := ⟨_, rfl⟩
          rw [hy] at e0
          by_cases hxy : x.toList = y.toList
          · have hb1 : (x.toList == y.toList) = true := beq_iff_eq.mpr hxy
            have hb2 : (x.toList != y.toList) = false := bne_eq_false_iff_eq.mpr hxy
            gi_wp2
            refine ⟨(KeepsOthers.setCell _ _ _).from _, trivial, ?_, below_set i1 (Nat.le_refl _)⟩
            refine blk_put i0 0 _ ?_
            rw [List.length_append, List.length_singleton]
            rfl
          · have hb1 : (x.toList == y.toList) = false := beq_eq_false_iff_ne.mpr hxy
            have hb2 : (x.toList != y.toList) = true := bne_iff_ne.mpr hxy
            gi_wp2
            refine ⟨(KeepsOthers.setCell _ _ _).from _, rfl, pre.length, by rw [List.length_append, List.length_singleton]; omega, by omega, ?_⟩
            intro he
            rw [List.getElem?_append_right (Nat.le_refl _), Nat.sub_self, List.getElem?_eq_getElem (show pre.length < l.length by omega)] at he
            injection he with he
            apply hxy
            rw [← hy]
            unfold rdOf
            rw [Int.toNat_natCast, List.getD_eq_getElem?_getD, List.getElem?_eq_getElem (show pre.length < l.length by omega), Option.getD_some, ← he]
        · have hltb := decide_eq_false hlt2
          gi_wp2
          refine ⟨(KeepsOthers.setCell _ _ _).from _, trivial, ?_, below_set i1 (Nat.le_refl _)⟩
          refine blk_put i0 0 _ ?_
          rw [List.length_append, List.length_singleton]
          rfl
      case done =>
        rintro D ys W hD hys ⟨i0, i1⟩ hK
        have z1 := blk_cell i0 0
        have bl := blk_below (blk_below BL.out HW.out) i1
        have br := blk_below (blk_below BR.out HW.out) i1
        have y2 := blk_cell bl 0
        have y3 := blk_cell br 0
        have y4 := blk_frozen br 0
        subst hys
        have hle : l.length ≤ ys.length := by have := congrArg List.length hp.1; rw [List.length_take] at this; omega
        have hg1 : decide ((ys.length : Int) ≥ (l.length : Int)) = true := decide_eq_true (by omega)
        have hg2 : decide ((l.length : Int) ≤ (ys.length : Int)) = true := decide_eq_true (by omega)
        gi_wp2
        refine ⟨trivial, (whole_in k _ (n - 1) (by omega) (b ++ more) ys hL _).mono ?_⟩
        rintro e w4 ⟨rfl, hb⟩
        gi_wp2
        refine ⟨trivial, (whole_in k _ (n - 1) (by omega) more L2 hL2 _).mono ?_⟩
        rintro e w5 ⟨rfl, hb2⟩
        have hW := below_call (Below.refl W.heap.size W) hb
        have hW := below_call hW hb2
        have hDlt : D < W.heap.size := (Array.getElem?_eq_some_iff.1 hK).1
        have br := blk_below br hW
        have y3 := blk_cell br 0
        have y4 := blk_frozen br 0
        have hK5 : w5.heap[D]? = some (.deferred (some [])) := (hW.block D hDlt).trans hK
        clear hb hb2
        gi_wp2
        refine ⟨by simp, .inl ⟨_, _, rfl, run_takeDeferred (ds := []) ?_, ?_⟩⟩
        · exact (Below.heap_setCell _ _ _ D (by show D ≠ w.heap.size + 1; omega)).trans hK5
        · obtain ⟨vb, hvb⟩ : ∃ vb, (wholeN ys == wrap64 ((b.size : Int) + wholeN L2)) = vb := ⟨_, rfl⟩
          rw [hvb]
          have br6 := blk_put (cs' := #[.bool vb]) br 0 (.bool vb) rfl
          have br7 : ((w5.setCell ⟨w.heap.size + 1, 0, none⟩ (.bool vb)).putObj D (.deferred none)).heap[w.heap.size + 1]? = some (.cells #[.bool vb] 4 (0, 0)) := by
            unfold World.putObj
            dsimp only
            rw [Array.getElem?_setIfInBounds_ne (by omega)]
            exact br6
          have y5 := blk_cell br7 0
          refine ⟨_, by simp [results, Try.results10, go_sem, y5], rfl, ?_⟩
          have hbw : Below w.heap.size w w5 := below_call (below_call HB.out HW.out) (below_call i1 hW)
          exact (below_set hbw (by omega)).trans (belowK_b (w := w) (Nat.le_refl _) _ D _ _ (by omega) ((Below.heap_setCell _ _ _ D (by show D ≠ w.heap.size + 1; omega)).trans hK5) rfl rfl)
      case stop =>
        rintro D cc pre W hD hpre ⟨rfl, j, hj1, hj2, hj3⟩ hK
        obtain ⟨t1, e1⟩ := hpre
        have e2 := List.take_append_drop l.length L
        rw [hp.1] at e2
        refine absurd ?_ hj3
        have a1 : (pre ++ t1)[j]? = pre[j]? := List.getElem?_append_left hj1
        have a2 : (l ++ L.drop l.length)[j]? = l[j]? := List.getElem?_append_left hj2
        rw [← a1, ← a2, e1, e2]
theorem ferrulelaw02_SealJoins.calls (k : Nat) (A0 : Option Addr) (c0 : Nat) (l0 : List ByteArray) (a1 : ByteArray) (r : Bool) (w : World) (hr0 : Kd.C Kd.string w A0 l0.length l0) (hc0 : l0.length ≤ c0) (h : ferrulelaw02_SealJoins.f k l0 a1 = some r) :
    Calls Try.prog 10 #[.slice A0 l0.length c0, .string a1] w fun e w' => e = .returned (.bool r) ∧ Below w.heap.size w w' :=
  (callsIn_wide (n := 5)).1 (joins_in k 5 (Nat.le_refl _) A0 c0 l0 a1 r w hr0 hc0 h)
end Go.Proofs.Ytkkkpmobdaebgaa.Pr
