/- More laws for walks over owned blocks; no conditions. -/
import Derived.Test.YthjimddhnlmlhaaVc
namespace Go.Vc
section
variable {B w : World} {L L' F M1 M2 : List HProp} {X : HProp}
theorem Sat.allP_take (h : Sat B w (allP (M1 ++ X :: M2) :: F)) : Sat B w (X :: allP (M1 ++ M2) :: F) := by
  have h1 := h.unpack
  have h2 : Sat B w ((M1 ++ M2) ++ (X :: F)) := h1.perm (by
    rw [List.append_assoc, List.append_assoc]
    refine List.Perm.append_left _ ?_
    exact List.perm_middle.symm)
  exact h2.pack.perm (.swap _ _ _)
theorem Sat.allP_give (h : Sat B w (X :: allP (M1 ++ M2) :: F)) : Sat B w (allP (M1 ++ X :: M2) :: F) := by
  have h1 : Sat B w ((M1 ++ M2) ++ (X :: F)) := (h.perm (.swap _ _ _)).unpack
  refine Sat.pack (h1.perm ?_)
  rw [List.append_assoc, List.append_assoc]
  exact List.Perm.append_left _ List.perm_middle
theorem Rds.at_ {k m c : Nat} {a : Addr} {xs : List Value} (h : Rds w k (.slice (some a) m c) m xs) {j : Nat} {u : Value} (hj : xs[j]? = some u) : w.cell? (a.add j) = some u := by
  obtain ⟨_, a', c', h1, _, h2⟩ := h
  cases h1
  exact h2 a rfl j u hj
theorem Rds.ex {k m c : Nat} {a : Option Addr} {xs : List Value} (h : Rds w k (.slice a m c) m xs) (hm : 0 < m) : ∃ p, a = some p := by
  cases a with
  | none => have := (h.nil_ rfl).1; omega
  | some p => exact ⟨p, rfl⟩
end
end Go.Vc
