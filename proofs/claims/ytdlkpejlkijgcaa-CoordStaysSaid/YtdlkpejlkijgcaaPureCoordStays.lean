/- From the empty coordinator on it is right behind each order: proved of the printed function. Conditions: none. -/
import Derived.Test.YtdlkpejlkijgcaaDefCoordStays
import Derived.Test.YtdlkpejlkijgcaaCoordI
namespace Go.Proofs.Ytdlkpejlkijgcaa.Pr
open Go.RowKit Go.Proofs.YtdlkpejlkijgcaaW.PrintWords Go.Proofs.YtdlkpejlkijgcaaW.PrintLast Go.Proofs.YtdlkpejlkijgcaaW.PrintMore
theorem stays_l (l0 : List S38) (hq : ∀ y, y ∈ l0 → q38 y) (hl : l0.length < 4611686018427387904) (d : Nat) : ∀ (j : Nat) (l : List S42), j + d = l0.length → Inv l → Ev (fun k => ferrulelaw14_CoordStays.l0 k l0 true (j : Int) l) true := by
  induction d with
  | zero =>
    intro j l hj hI
    exact Ev.step (f := fun _ => some true) (fun k => by rw [ferrulelaw14_CoordStays.l0, if_neg (by omega)]) (Ev.now true)
  | succ d ih =>
    intro j l hj hI
    have hjl : j < l0.length := by omega
    have hr : rd_T38 l0 (j : Int) = l0[j] := by
      unfold rd_T38
      simp [List.getD_eq_getElem?_getD, List.getElem?_eq_getElem hjl]
    have hq1 := hq _ (List.getElem_mem hjl)
    rw [← hr] at hq1
    have hy : okB (rd_T38 l0 (j : Int)).f1 = true := (okB_iff _).2 hq1.2.1
    refine Ev.step (f := fun k => (coord_Do.f k l (rd_T38 l0 (j : Int)).f0 (rd_T38 l0 (j : Int)).f1.f0 (rd_T38 l0 (j : Int)).f1.f1 (rd_T38 l0 (j : Int)).f2 (rd_T38 l0 (j : Int)).f3 (rd_T38 l0 (j : Int)).f4 (rd_T38 l0 (j : Int)).f5).bind fun bt229 => (ferruleref14_Right.f k bt229.1).bind fun t237 => if t237 = true then ferrulelaw14_CoordStays.l0 k l0 true ((j + 1 : Nat) : Int) bt229.1 else some false) (fun k => ?_) ?_
    · rw [ferrulelaw14_CoordStays.l0, if_pos (by omega), if_pos (by omega), wr_succ (by omega)]
    · have hI2 := inv_doR hI hy
      refine Ev.bind (do_ev l _ (by have := hI.len; omega) hI.ok hy (by have := hq1.2.2.2.2.2.2.1; omega) hI.parts) ?_
      refine Ev.bind (right_ev _) ?_
      rw [hI2.right]
      simpa using ih (j + 1) _ (by omega) hI2
end Go.Proofs.Ytdlkpejlkijgcaa.Pr
namespace Go.Proofs.Ytdlkpejlkijgcaa.Pure
open Go.RowKit Go.Proofs.Ytdlkpejlkijgcaa.Pr Go.Proofs.YtdlkpejlkijgcaaW.PrintWords Go.Proofs.YtdlkpejlkijgcaaW.PrintLast Go.Proofs.YtdlkpejlkijgcaaW.PrintMore
theorem CoordStays : ferrulelaw14_CoordStays.Pure := by
  intro l0 ⟨h1, h2, hq⟩
  exact (Ev.rounds (Ev.congr (f := fun k => ferrulelaw14_CoordStays.l0 k l0 true 0 []) (fun k => rfl) (stays_l l0 hq (by omega) l0.length 0 [] (by omega) inv_nil)))
end Go.Proofs.Ytdlkpejlkijgcaa.Pure
