/- What an order comes to, as plain lists; what stays right. Conditions: none. -/
import Derived.Test.YtdlkpejlkijgcaaCoordL
namespace Go.Proofs.Ytdlkpejlkijgcaa.Pr
open Go.RowKit Go.Proofs.YtdlkpejlkijgcaaW.PrintWords Go.Proofs.YtdlkpejlkijgcaaW.PrintLast Go.Proofs.YtdlkpejlkijgcaaW.PrintMore
set_option linter.unusedVariables false
set_option linter.unusedSimpArgs false
abbrev Ans := List S42 × Int × ByteArray × Int × Bool × Bool
def noR (l : List S42) (e : Int) : Ans := (l, e, ⟨#[]⟩, 0, false, false)
def addR (l : List S42) (d : S42) : Ans := if 64 ≤ l.length then noR l 5 else noR (l ++ [d]) 0
theorem with_f (l : List S42) (d : S42) (hl : l.length < 2932031007400) : coord_with.f l d.f0.f0 d.f0.f1 d.f1 d.f2 = some (addR l d) := by
  unfold coord_with.f addR
  by_cases h : 64 ≤ l.length
  · rw [if_pos (by omega), if_pos h]
    rfl
  · rw [if_neg (by omega), if_neg h]
    unfold cloneD.f
    rw [if_pos (by omega)]
    simp only [Option.bind_some, List.length_singleton]
    rw [if_pos (by omega)]
    rfl
def decR (l : List S42) (y : S34) (c : Bool) : Ans := match plc l y with
  | none => if c = true then noR l 7 else addR l ⟨y, [], 2⟩
  | some i => (decL l i c, 0, ⟨#[]⟩, 0, false, decSt (rd_T42 l i).f2 c == 1)
theorem decides_f (l : List S42) (k0 : Int) (y : S34) (s : ByteArray) (lr : List S86) (c : Bool) (lp : List Int) (hl : l.length < 2932031007400) (hok : okAll l = true) (hy : okB y = true) : coord_decides.f l k0 y.f0 y.f1 s lr c lp = some (decR l y c) := by
  unfold coord_decides.f decR
  rw [if_pos (by rw [hok]; exact hy)]
  show (match plc l y with | none => _ | some i => _) = _
  cases hp : plc l y with
  | none =>
    dsimp only
    cases c with
    | true => rfl
    | false => exact with_f l ⟨y, [], 2⟩ hl
  | some i => dsimp only; rw [if_pos (by omega)]
def begR (l : List S42) (y : S34) (p : List Int) : Ans := if mayB p = true then (match plc l y with
  | some i => if (rd_T42 l i).f2 = 0 then (if eqB (rd_T42 l i).f1 p = true then noR l 0 else noR l 8) else (l, 13, ⟨#[]⟩, 0, false, (rd_T42 l i).f2 == 1)
  | none => addR l ⟨y, p, 0⟩) else noR l 1
theorem begins_ev (l : List S42) (k0 : Int) (y : S34) (s : ByteArray) (lr : List S86) (c : Bool) (p : List Int) (hl : l.length < 2932031007400) (hok : okAll l = true) (hy : okB y = true) (hp : p.length < 4611686018427387904)
    (hparts : ∀ d, d ∈ l → d.f1.length < 17592186044416) : Ev (fun k => coord_begins.f k l k0 y.f0 y.f1 s lr c p) (begR l y p) := by
  unfold coord_begins.f begR
  refine Ev.bind (may_ev p hp) ?_
  cases hm : mayB p with
  | false => exact Ev.congr (f := fun _ => some (noR l 1)) (fun k => by rw [if_neg (by simp)]; rfl) (by simpa using Ev.now (noR l 1))
  | true =>
    simp only [if_true]
    have hp8 : p.length < 17592186044416 := by
      unfold mayB lenB at hm
      simp only [Bool.and_eq_true, decide_eq_true_eq] at hm
      omega
    cases hq : plc l y with
    | none =>
      have hf : coord_Find.f l y.f0 y.f1 = some (0, 0, [], 0, false) := by
        unfold coord_Find.f
        rw [if_pos (by rw [hok]; exact hy)]
        show (match plc l y with | none => _ | some i => _) = _
        rw [hq]
      refine Ev.congr (f := fun k => coord_begins.j0 k false false l k0 y.f0 y.f1 s lr c p 0 0 [] 0) (fun k => by rw [hf]; simp only [Option.bind_some]; rw [if_neg (by simp)]) ?_
      refine Ev.step (f := fun k => coord_begins.j1 k false false l k0 y.f0 y.f1 s lr c p) (fun k => by rw [coord_begins.j0, if_neg (by simp), if_neg (by simp)]) ?_
      refine Ev.step (f := fun _ => some (addR l ⟨y, p, 0⟩)) (fun k => ?_) (Ev.now _)
      rw [coord_begins.j1, if_neg (by simp), if_neg (by simp)]
      unfold cloneU.f
      rw [if_pos hp8]
      simp only [Option.bind_some]
      rw [with_f l ⟨y, p, 0⟩ hl]
      rfl
    | some i =>
      obtain ⟨j, rfl, hj, hjy, _⟩ := plc_some hq
      have hpl : (rd_T42 l (j : Int)).f1.length < 17592186044416 := by
        refine hparts _ ?_
        unfold rd_T42
        simp only [Int.toNat_natCast, List.getD_eq_getElem?_getD, List.getElem?_eq_getElem hj, Option.getD_some]
        exact List.getElem_mem hj
      have hf : coord_Find.f l y.f0 y.f1 = some ((rd_T42 l (j : Int)).f0.f0, (rd_T42 l (j : Int)).f0.f1, (rd_T42 l (j : Int)).f1, (rd_T42 l (j : Int)).f2, true) := by
        unfold coord_Find.f
        rw [if_pos (by rw [hok]; exact hy)]
        show (match plc l y with | none => _ | some i => _) = _
        rw [hq]
        dsimp only
        rw [if_pos hpl]
      refine Ev.congr (f := fun k => coord_begins.j0 k true ((rd_T42 l (j : Int)).f2 != 0) l k0 y.f0 y.f1 s lr c p (rd_T42 l (j : Int)).f0.f0 (rd_T42 l (j : Int)).f0.f1 (rd_T42 l (j : Int)).f1 (rd_T42 l (j : Int)).f2) (fun k => by rw [hf]; simp only [Option.bind_some, if_true]) ?_
      dsimp only
      by_cases h0 : (rd_T42 l (j : Int)).f2 = 0
      · rw [if_pos h0]
        refine Ev.step (f := fun k => (slices_Equal_uint64_uint64.f k (rd_T42 l (j : Int)).f1 p).bind fun t150 => coord_begins.j1 k true t150 l k0 y.f0 y.f1 s lr c p) (fun k => by rw [coord_begins.j0, if_neg (by simp [h0]), if_pos rfl]) ?_
        refine Ev.bind (equal_ev _ _ (by omega)) ?_
        cases eqB (rd_T42 l (j : Int)).f1 p with
        | true => exact Ev.step (f := fun _ => some (noR l 0)) (fun k => by rw [coord_begins.j1, if_pos rfl]; rfl) (by simpa using Ev.now (noR l 0))
        | false => exact Ev.step (f := fun _ => some (noR l 8)) (fun k => by rw [coord_begins.j1, if_neg (by simp), if_pos rfl]; rfl) (by simpa using Ev.now (noR l 8))
      · rw [if_neg h0]
        exact Ev.step (f := fun _ => some (l, 13, ⟨#[]⟩, 0, false, (rd_T42 l (j : Int)).f2 == 1)) (fun k => by rw [coord_begins.j0, if_pos (by simp [h0])]) (Ev.now _)
/-- What an order comes to. -/
def doR (l : List S42) (o : S38) : Ans := if o.f0 = 5 then begR l o.f1 o.f5 else if o.f0 = 7 then decR l o.f1 false else if o.f0 = 6 then decR l o.f1 o.f4 else noR l 1
theorem do_ev (l : List S42) (o : S38) (hl : l.length < 2932031007400) (hok : okAll l = true) (hy : okB o.f1 = true) (hp : o.f5.length < 4611686018427387904) (hparts : ∀ d, d ∈ l → d.f1.length < 17592186044416) :
    Ev (fun k => coord_Do.f k l o.f0 o.f1.f0 o.f1.f1 o.f2 o.f3 o.f4 o.f5) (doR l o) := by
  unfold coord_Do.f doR
  by_cases h5 : o.f0 = 5
  · rw [if_pos h5]
    refine Ev.congr (f := fun k => (coord_begins.f k l o.f0 o.f1.f0 o.f1.f1 o.f2 o.f3 o.f4 o.f5).bind fun bt => some bt) (fun k => by rw [if_pos h5]) (Ev.bind (begins_ev l o.f0 o.f1 o.f2 o.f3 o.f4 o.f5 hl hok hy hp hparts) (Ev.now _))
  · simp only [if_neg h5]
    by_cases h7 : o.f0 = 7
    · simp only [if_pos h7]
      exact Ev.congr (f := fun _ => some (decR l o.f1 false)) (fun k => by rw [decides_f l o.f0 o.f1 o.f2 o.f3 false o.f5 hl hok hy]; rfl) (Ev.now _)
    · simp only [if_neg h7]
      by_cases h6 : o.f0 = 6
      · simp only [if_pos h6]
        exact Ev.congr (f := fun _ => some (decR l o.f1 o.f4)) (fun k => by rw [decides_f l o.f0 o.f1 o.f2 o.f3 o.f4 o.f5 hl hok hy]; rfl) (Ev.now _)
      · simp only [if_neg h6]
        exact Ev.congr (f := fun _ => some (noR l 1)) (fun k => rfl) (Ev.now _)
end Go.Proofs.Ytdlkpejlkijgcaa.Pr
