/- The pure statement of the law PackOne, proved. Conditions: none. -/
import Derived.Test.YtajphdkolpkloaaDefPackOne
import Derived.Test.YtajphdkolpkloaaPackO
namespace Go.Proofs.Ytajphdkolpkloaa.Pure
open Go.RowKit Go.Proofs.Ytajphdkolpkloaa.Pr Go.Proofs.YtajphdkolpkloaaW.PrintWords Go.Proofs.YtajphdkolpkloaaW.PrintLast Go.Proofs.YtajphdkolpkloaaW.PrintMore
theorem shown_true : ferrulelaw01_shown.f 20 = some true := by decide +kernel
theorem PackOne : ferrulelaw01_PackOne.Pure := by
  intro a m ha hm
  refine ⟨20, ?_⟩
  unfold ferrulelaw01_PackOne.f
  rw [shown_true]
  rcases take_full a with ⟨e, he, hf⟩ | ⟨n, v, h1, h8, hn, hf, hi, hv, hL, hshort⟩
  · rw [hf]
    simp only [Option.bind_some]
    rw [if_neg he, if_true, if_true, toList_nil.mpr (by rfl)]
    rfl
  · rw [hf]
    have hz : (a.extract n a.size).size = a.size - n := by rw [ByteArray.size_extract]; omega
    have hw : wrap64 ((a.size : Int) - ((a.extract n a.size).size : Int)) = (n : Int) := by
      rw [hz, wrap64_in (by omega) (by omega)]
      omega
    simp only [Option.bind_some]
    rw [if_true, num_f hi, hw]
    simp only [Option.bind_some]
    unfold numE
    rw [if_neg (by omega), if_neg (by omega), if_pos hv, if_pos rfl, if_pos (by omega), if_pos (by omega), hL]
    rw [(by omega : ((n : Int)).toNat = n), if_pos rfl, bne_self_eq_false]
    rw [ferrulelaw01_PackOne.j0, if_neg (by decide)]
    by_cases c1 : m < 0
    · rw [if_pos c1]
    · rw [if_neg c1]
      by_cases c2 : m ≥ (n : Int)
      · rw [if_pos c2]
      · rw [if_neg c2, if_pos (by omega), if_pos (by omega), hshort 19 m.toNat (by omega)]
        rfl
end Go.Proofs.Ytajphdkolpkloaa.Pure
