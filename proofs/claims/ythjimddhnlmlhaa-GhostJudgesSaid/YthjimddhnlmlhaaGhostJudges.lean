/- GhostJudges returns true for every input and its arguments read as before; no conditions. -/
import Derived.Test.YthjimddhnlmlhaaJudgesWalk
import Derived.Test.YthjimddhnlmlhaaNetArgs
import Derived.Test.YthjimddhnlmlhaaRows
import Derived.ProofKit
namespace Go.Proofs.Ythjimddhnlmlhaa
open Go.ChangeShapes Go.WideShapes Go.ChangeAt Go.RowKit Go.Vc

theorem ghostJudges_calls (xs : Array Value) (w : World) : (callFunc 3 xs).run Try.prog w = .ok (.enter 3 xs) w := by rfl
set_option maxRecDepth 100000 in
theorem ghostJudges_lifted (os : Os) (started : os.Started) (H : Type) (enc : TypeId × Value → H) :
    ReturnsInHanded {} Try.checked os 3 .any (Rows.ghostJudgesSpec.pre6 enc Try.prog Try.f3 Rows.ghostJudgesRow.domain false) (Rows.ghostJudgesSpec.post enc Try.prog Try.f3 false true false false) := by
  refine returnsInHanded_of_change_sized (C := Try.checked) Try.own started (by kernel_rfl) Try.func3
    (ChangeSpec.witness6 (enc := enc) (C := Try.checked) false ⟨#[], #[.agg #[.slice none 0 0, .slice none 0 0, .int .u32 0], .slice none 0 0], []⟩ 8 (by kernel_rfl) (by kernel_rfl) (by kernel_rfl) (by kernel_rfl)) ?_
  intro W base args ds gs before hval0 hW hcnd hsz0 _
  have hsz : (DataW.weightsEach Try.prog (Try.f3.params.toList ++ Rows.ghostJudgesSpec.plain.varTypes Try.prog) (ds ++ gs)).all (· ≤ reachBytes) = true := hsz0
  have hval : ∀ (j : Nat) t v, Try.f3.params[j]? = some t → args[j]? = some v → Value.okWide Try.prog W .any base t v := hval0
  have hW' := hW
  obtain ⟨p, q, hA0, hV, rfl, hfz, hnd⟩ := hW
  have hA : DataW.TrodAll enc Try.prog W 0 (fun _ => true) true Try.f3.params.toList args.toList ds p := hA0
  rw [Try.params3] at hA hsz hval
  obtain ⟨v0, v1, d0, d1, p0, p1, hargs, rfl, rfl, h0, h1⟩ := trodAll_two hA
  have hargs : args = #[v0, v1] := by first | exact hargs | (cases args; simpa using hargs)
  subst hargs
  obtain ⟨rfl, rfl⟩ := trodVars_none hV
  obtain ⟨ah, ad, ch, cd, mx, hs, dss, ph, pd, rfl, hrd, ho1, ho2, hq1, hq2, hw1, hw2⟩ := open_net (hval 0 25 v0 rfl rfl) h0
  obtain ⟨sa, sc, fs, rfl, hsn, _, hfs, hok⟩ := open_facts (hval 1 26 v1 rfl rfl) h1
  clear hA0 hval0
  obtain ⟨ok1, ln1⟩ := hok _ _ 1 hsz rfl rfl
  simp only [List.append_nil] at hW'
  have hlt : ∀ x ∈ p0 ++ p1, x.block < W.heap.size := fun x hx => by simpa using hW'.lt x (by simp at hx ⊢; exact hx)
  refine (tri_calls (judges_t hrd ho1 ho2 hq1 hq2 hw1 hw2 hfs hsn ok1 ln1) ghostJudges_calls (Sat.ofOld W)).mono fun e W' ⟨v, L', he, ⟨hv, hL⟩, hs⟩ => ?_
  subst hv; subst hL
  have bel : Below W.heap.size W W' := hs.below .here
  exact ⟨_, he, _, _, _, [], _, [], hW', trodAll_mk1 (shut_bool Try.underlying4 true), trodAll_mk2 (Below.trod Try.laidOut (by kernel_rfl) (of_decide_eq_true (by kernel_rfl)) h0 bel (fun x hx => hlt x (by simp [hx]))) (Below.trod Try.laidOut (by kernel_rfl) (of_decide_eq_true (by kernel_rfl)) h1 bel (fun x hx => hlt x (by simp [hx]))), rfl, bel.frame _, fun h => by cases h⟩

theorem ghostJudges_holds : Rows.GhostJudgesSaid :=
  OpenClaim.holds_of_wide 3 Try.f3 rfl rfl rfl rfl rfl rfl rfl ⟨rfl, rfl, rfl, rfl, rfl⟩ rfl rfl rfl rfl rfl (by kernel_rfl) Try.func3 (by kernel_rfl)
    (of_decide_eq_true (by kernel_rfl)) (by unfold Func.isWrapper; first | (rw [if_pos (by decide +kernel)]; kernel_rfl) | (rw [if_neg (by decide +kernel)]; exact ⟨rfl, rfl⟩))
    (fun os started H enc _ => ghostJudges_lifted os started H enc)
end Go.Proofs.Ythjimddhnlmlhaa
