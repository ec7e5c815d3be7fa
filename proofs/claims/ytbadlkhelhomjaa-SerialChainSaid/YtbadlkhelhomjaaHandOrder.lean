/- serial.Order: what it answers. Conditions: none. -/
import Derived.Test.YtbadlkhelhomjaaHandFree
import Derived.BigQuiet
import Derived.Carry
namespace Go.Proofs.Ytbadlkhelhomjaa.Pr
open Go.RowKit Go.Proofs.YtbadlkhelhomjaaW.PrintWords Go.Proofs.YtbadlkhelhomjaaW.PrintLast Go.Proofs.YtbadlkhelhomjaaW.PrintMore
open Go.Proofs.Ytbadlkhelhomjaa.Hnd
attribute [local go_sem] setCell_drewN_ alloc_drewN_
set_option linter.unusedVariables false
set_option linter.unusedSimpArgs false
def takenB (out : List Int) (i : Int) : Bool := out.any fun y => decide (y = i)
theorem taken_snoc (l : List Int) (y : Int) : (fun z => if z = y then true else takenB l z) = takenB (l ++ [y]) := by
  funext z
  unfold takenB
  rw [List.any_append]
  by_cases h : z = y
  · subst h
    simp
  · rw [if_neg h]
    have : decide (y = z) = false := decide_eq_false (fun e => h e.symm)
    simp [this]
/-- The first that is free, from i on (d are left); -1: none is. -/
def pickN (l : List S27) (out : List Int) : Nat → Nat → Int
  | 0, _ => -1
  | d + 1, i => if (!(takenB out (i : Int)) && freeB l (takenB out) i) = true then (i : Int) else pickN l out d (i + 1)
def orderN (l : List S27) : Nat → List Int → List Int × Int
  | 0, out => (out, 0)
  | d + 1, out => if pickN l out l.length 0 < 0 then ([], 9) else orderN l d (out ++ [pickN l out l.length 0])
def orderB (l : List S27) : List Int × Int := if (l.length : Int) > 64 then ([], 4) else orderN l l.length []
def serial_Order.f (l0 : List S27) : Option (List Int × Int) := some (orderB l0)
def OrderPost (w : World) (r : List Int × Int) (e : Ending) (w' : World) : Prop :=
  ∃ v0_ : Value, e = .returned (.tuple #[v0_, .int .i64 r.2]) ∧ Kd.R (Kd.int .i64) 3 w' w.heap.size (fun _ => True) v0_ r.1 ∧ Below w.heap.size w w'
structure Ord (l : List S27) (A : Option Addr) (c : Nat) (w : World) (n : Nat) (S out : List Int) (v : Value) (W : World) : Prop where
  kl : W.heap[w.heap.size]? = some (.cells #[.slice A l.length c] 30 (0, 0))
  kt : W.heap[w.heap.size + 2]? = some (.cells #[.map (some (w.heap.size + 1))] 45 (0, 0))
  s : Set45 W (w.heap.size + 1) n (takenB S)
  ro : Kd.R (Kd.int .i64) 3 W w.heap.size (fun _ => True) v out
  bel : Below w.heap.size w W
section
variable {l : List S27} {A : Option Addr} {c n : Nat} {S out : List Int} {v v1 : Value} {w ws ws' : World}
theorem Ord.below (h : Ord l A c w n S out v ws) (hb : Below ws.heap.size ws ws') : Ord l A c w n S out v ws' :=
  ⟨blk_below h.kl hb, blk_below h.kt hb, MapB.below h.s hb, Kd.R_below h.ro hb, below_call h.bel hb⟩
theorem Ord.mark (h : Ord l A c w n S out v ws) {x : Int} (hm : Set45 ws' (w.heap.size + 1) (n + 1) (fun z => if z = x then true else takenB S z)) (hg : ws.grownBy ws' (some (w.heap.size + 1))) : Ord l A c w (n + 1) (S ++ [x]) out v ws' :=
  ⟨blk_grown h.kl hg (fun e => by have := Option.some.inj e; omega), blk_grown h.kt hg (fun e => by have := Option.some.inj e; omega), (taken_snoc S x) ▸ hm, R_map h.ro (MapB.obj h.s) hg, Below.grown h.bel hg h.bel.size (fun k hk => by cases hk; omega)⟩
theorem Ord.append (h : Ord l A c w n S out v ws) {ys : List Int} (ho : Kd.R (Kd.int .i64) 3 ws' w.heap.size (fun _ => True) v1 ys) (hg : ws.grownBy ws' v.ownBlock) : Ord l A c w n S ys v1 ws' :=
  ⟨blk_grown h.kl hg (Kd.R_ne h.ro h.kl (by decide)), blk_grown h.kt hg (Kd.R_ne h.ro h.kt (by decide)), MapB.over h.s h.ro hg, ho, Below.grown h.bel hg h.bel.size (fun k hk => by have := Kd.R_base h.ro k hk; omega)⟩
theorem Ord.made (l : List S27) (A : Option Addr) (c : Nat) (w : World) : Ord l A c w 0 [] [] (.slice none 0 0) (((w.alloc (.cells #[.slice A l.length c] 30)).alloc (.map #[] 0)).alloc (.cells #[.map (some (w.heap.size + 1))] 45)) := by
  have hm := MapB.made (P := Try.prog) (k := 3) (e := 4) (enc := enc3) (ok := okI) (w.alloc (.cells #[.slice A l.length c] 30))
  rw [show (w.alloc (.cells #[.slice A l.length c] 30)).heap.size = w.heap.size + 1 by simp] at hm
  exact ⟨blk_alloc (blk_alloc (blk_new _ _) _) _, blk_newAt _ (by simp), MapB.alloc hm _, Kd.R_nil _ _ _ _ _, below_alloc (below_alloc (below_alloc (Below.refl _ _) _) _) _⟩
end
set_option maxHeartbeats 8000000 in
set_option maxRecDepth 100000 in
theorem order_walk (A0 : Option Addr) (c0 : Nat) (l0 : List S27) (w : World) (hr0 : Kd.C k27 w A0 l0.length l0) (hc0 : l0.length ≤ c0) :
    Calls Try.prog 12 #[.slice A0 l0.length c0] w (OrderPost w (orderB l0)) := by
  have HR := Aside0.mk hr0
  have HL : l0.length ≤ 9223372036854775807 := hr0.2.1
  clear hr0
  have hmm := @run_makeMap Try.prog
  by_cases h64 : (l0.length : Int) > 64
  · have h64b := decide_eq_true h64
    have HA := Aside0.mk (show orderB l0 = ([], 4) by unfold orderB; rw [if_pos h64])
    go_enter Try.func12, Try.ntmps12
    go_wp2
    refine bodyPost_ret (v := .tuple #[.slice none 0 0, .int .i64 4]) (by simp [results, Try.results12, go_sem]) rfl ?_
    show OrderPost w (orderB l0) _ _
    rw [HA.out]
    exact ⟨_, rfl, Kd.R_nil _ _ _ _ _, below_alloc (Below.refl _ _) _⟩
  · have h64b := decide_eq_false h64
    have H64 := Aside0.mk (show l0.length ≤ 64 by omega)
    have HA0 := Aside0.mk (show orderB l0 = orderN l0 l0.length [] by unfold orderB; rw [if_neg h64])
    clear h64
    go_enter Try.func12, Try.ntmps12
    go_wp2_with fail
    go_loopg [5] l0.length (fun g v5 wr => ∃ (out : List Int), Aside0 (out.length ≤ l0.length ∧ l0.length - out.length ≤ g) ∧ Aside0 (orderB l0 = orderN l0 (l0.length - out.length) out) ∧ Aside0 (Ord l0 A0 c0 w out.length out out v5 wr))
    case atStart => exact ⟨[], ⟨by simp⟩, ⟨HA0.out⟩, ⟨Ord.made l0 A0 c0 w⟩⟩
    case round =>
      clear hmm h64b
      obtain ⟨out, HI, HT, HU⟩ := hrel
      obtain ⟨Av, sv, cv, rfl, hsv⟩ := Kd.R_slice HU.out.ro
      have k0 := blk_cell HU.out.kl 0
      have k1 := blk_cell HU.out.kt 0
      have z0 := blk_lt HU.out.kl
      have z1 := blk_lt HU.out.kt
      by_cases hlt : (out.length : Int) < l0.length
      · have hltb := decide_eq_true hlt
        have HTA := Aside0.mk (show orderB l0 = if pickN l0 out l0.length 0 < 0 then ([], 9) else orderN l0 (l0.length - (out.length + 1)) (out ++ [pickN l0 out l0.length 0]) by
          rw [HT.out, show l0.length - out.length = (l0.length - (out.length + 1)) + 1 by omega]
          rfl)
        have HLT := Aside0.mk (show out.length < l0.length by omega)
        go_wp2_with fail
        obtain ⟨wa, rfl⟩ : ∃ wo : World, wo = wr := ⟨_, rfl⟩
        obtain ⟨gO, rfl⟩ : ∃ go : Nat, go = gk := ⟨_, rfl⟩
        go_loopg [7, 21] l0.length (fun g v7 v21 ws => ∃ (i : Nat), v7 = .int .i64 (-1) ∧ v21 = .int .i64 (i : Int) ∧ Aside0 (i ≤ l0.length ∧ l0.length - i ≤ g) ∧ Aside0 (pickN l0 out l0.length 0 = pickN l0 out (l0.length - i) i) ∧ Aside0 (Ord l0 A0 c0 w out.length out out (.slice Av out.length sv) ws))
        case atStart => exact ⟨0, rfl, rfl, ⟨by omega⟩, ⟨rfl⟩, HU⟩
        case round =>
          clear k0 k1 z0 z1 HU hltb hlt
          obtain ⟨i, rfl, rfl, HJ, HP, HV⟩ := hrel
          have k0 := blk_cell HV.out.kl 0
          have k1 := blk_cell HV.out.kt 0
          have z0 := blk_lt HV.out.kl
          have z1 := blk_lt HV.out.kt
          by_cases hi : (i : Int) < l0.length
          · have hib := decide_eq_true hi
            have hil : i < l0.length := by omega
            have HP2 := Aside0.mk (show pickN l0 out l0.length 0 = if (!(takenB out (i : Int)) && freeB l0 (takenB out) i) = true then (i : Int) else pickN l0 out (l0.length - (i + 1)) (i + 1) by
              rw [HP.out, show l0.length - i = (l0.length - (i + 1)) + 1 by omega]
              rfl)
            clear HP
            have hok := okI_of i (by have := H64.out; omega)
            have HOK := Aside0.mk hok
            have l1 := look45 HV.out.s (i : Int) hok
            clear hok
            cases ht : takenB out (i : Int) with
            | true =>
              have HTK := Aside0.mk ht
              rw [ht] at l1
              clear ht
              go_wp2
              go_roundg (gk - 1)
              case measure => have := HJ.out; omega
              case rel => exact ⟨i + 1, rfl, by go_num, ⟨by have := HJ.out; omega⟩, ⟨by rw [HP2.out, HTK.out]; rfl⟩, HV⟩
            | false =>
              have HTK := Aside0.mk ht
              rw [ht] at l1
              clear ht
              have H20 := free_20 A0 c0 l0 i hil (takenB out) w.heap.size (w.heap.size + 2) (w.heap.size + 1) out.length wr ⟨HV.out.kl, HV.out.kt, HV.out.s, Below.refl _ _⟩ (Kd.C_below HR.out HV.out.bel) H64.out
              cases hq : freeB l0 (takenB out) i with
              | false =>
                have HQ := Aside0.mk hq
                rw [hq] at H20
                have H20 := Aside0.mk H20
                clear hq
                go_wp2_with (first | (go_at_call 20; refine H20.out.mono ?_; rintro e w2 ⟨rfl, hb⟩; have HV2 := Aside0.mk (HV.out.below hb); clear hb) | go_in)
                go_roundg (gk - 1)
                case measure => have := HJ.out; omega
                case rel => exact ⟨i + 1, rfl, by go_num, ⟨by have := HJ.out; omega⟩, ⟨by rw [HP2.out, HTK.out, HQ.out]; rfl⟩, HV2⟩
              | true =>
                have HQ := Aside0.mk hq
                rw [hq] at H20
                have H20 := Aside0.mk H20
                clear hq
                have HPI := Aside0.mk (show pickN l0 out l0.length 0 = (i : Int) by rw [HP2.out, HTK.out, HQ.out]; rfl)
                have hneg : decide ((i : Int) < 0) = false := decide_eq_false (by omega)
                go_wp2_with (first
                  | (go_at_call 20; refine H20.out.mono ?_; rintro e w2 ⟨rfl, hb⟩; have HV2 := Aside0.mk (HV.out.below hb); clear hb; have m0 := blk_cell HV2.out.kl 0; have m1 := blk_cell HV2.out.kt 0; have y0 := blk_lt HV2.out.kl; have y1 := blk_lt HV2.out.kt)
                  | (at_mapUpdate; obtain ⟨kl, hkl⟩ := key3 (i : Int) HOK.out; refine wpList_mapUpdate_B _ rfl _ _ _ 45 rfl 3 4 keyed3 (fun x y _ _ h => enc3_inj x y h) Try.underlying45 Try.underlying4 (w.heap.size + 1) out.length rfl HV2.out.s ?hn (i : Int) HOK.out kl rfl true rfl hkl ?_; (case hn => (have := H64.out; have := HLT.out; unfold maxLen; omega)); intro w4 hm4 hg4; have HV4 := Aside0.mk (HV2.out.mark hm4 hg4); clear hm4 hg4 hkl)
                  | ((with_reducible refine gate_builtin (b := .append) (xs := #[.tmp 39, .tmp 41]) rfl ?_); at_builtin; refine Kd.R_append (Kd.int .i64) (w0 := w4) w.heap.size rfl (.tmp 39) (.tmp 41) 31 3 (.int .i64 0) 8 rfl Try.underlying31 info3 rfl (by decide) (by omega) _ out (i : Int) [.int .i64 (i : Int)] (fun _ => True) (fun _ => False) rfl rfl ?aP (fun _ hk => hk.elim) (fun _ _ => trivial) HV4.out.ro ?aB ?aS ?aL ?_; (case aP => exact rfl); (case aB => exact Below.refl _ _); (case aS => exact HV4.out.bel.size); (case aL => (have := H64.out; have := HLT.out; omega)); intro v1 w5 ho5 hb5 hg5 hat5; have HV5 := Aside0.mk (HV4.out.append ho5 hg5); clear ho5 hb5 hg5 hat5)
                  | go_in)
                go_roundg (gO - 1)
                case measure => have := HI.out; have := HLT.out; omega
                case rel => exact ⟨out ++ [(i : Int)], ⟨by have := HI.out; have := HLT.out; rw [List.length_append, List.length_singleton]; omega⟩, ⟨by rw [HTA.out, HPI.out, if_neg (by omega), List.length_append, List.length_singleton]⟩, ⟨by rw [List.length_append, List.length_singleton]; exact HV5.out⟩⟩
          · have hib := decide_eq_false hi
            have HPI := Aside0.mk (show pickN l0 out l0.length 0 = -1 by rw [HP.out, show l0.length - i = 0 by have := HJ.out; omega]; rfl)
            go_wp2
            refine bodyPost_ret (v := .tuple #[.slice none 0 0, .int .i64 9]) (by simp [results, Try.results12, go_sem]) rfl ?_
            show OrderPost w (orderB l0) _ _
            rw [HTA.out, HPI.out]
            exact ⟨_, rfl, Kd.R_nil _ _ _ _ _, HV.out.bel⟩
      · have hltb := decide_eq_false hlt
        have HA := Aside0.mk (show orderB l0 = (out, 0) by rw [HT.out, show l0.length - out.length = 0 by have := HI.out; omega]; rfl)
        go_wp2
        refine bodyPost_ret (v := .tuple #[.slice Av out.length sv, .int .i64 0]) (by simp [results, Try.results12, go_sem]) rfl ?_
        show OrderPost w (orderB l0) _ _
        rw [HA.out]
        exact ⟨_, rfl, HU.out.ro, HU.out.bel⟩
theorem serial_Order.calls (A0 : Option Addr) (c0 : Nat) (l0 : List S27) (r1 : List Int) (r2 : Int) (w : World) (hr0 : Kd.C k27 w A0 l0.length l0) (hc0 : l0.length ≤ c0) (h : serial_Order.f l0 = some (r1, r2)) :
    Calls Try.prog 12 #[.slice A0 l0.length c0] w fun e w' => ∃ v0_ : Value, e = .returned (.tuple #[v0_, .int .i64 r2]) ∧ Kd.R (Kd.int .i64) 3 w' w.heap.size (fun _ => True) v0_ r1 ∧ Below w.heap.size w w' := by
  have e := Option.some.inj h
  refine (order_walk A0 c0 l0 w hr0 hc0).mono fun e' w' hp => ?_
  rw [e] at hp
  exact hp
end Go.Proofs.Ytbadlkhelhomjaa.Pr
