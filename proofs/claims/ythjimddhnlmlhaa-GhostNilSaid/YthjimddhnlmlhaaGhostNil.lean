/- GhostNil returns true for every input and its argument reads as before; no conditions. -/
import Derived.Test.YthjimddhnlmlhaaNilWalk
import Derived.Test.YthjimddhnlmlhaaArgs
import Derived.Test.YthjimddhnlmlhaaRows
import Derived.ProofKit
namespace Go.Proofs.Ythjimddhnlmlhaa
open Go.ChangeShapes Go.WideShapes Go.ChangeAt Go.RowKit Go.Vc

theorem ghostNil_calls (xs : Array Value) (w : World) : (callFunc 5 xs).run Try.prog w = .ok (.enter 5 xs) w := by rfl
set_option maxRecDepth 100000 in
theorem ghostNil_lifted (os : Os) (started : os.Started) (H : Type) (enc : TypeId × Value → H) :
    ReturnsInHanded {} Try.checked os 5 .any (Rows.ghostNilSpec.pre6 enc Try.prog Try.f5 Rows.ghostNilRow.domain false) (Rows.ghostNilSpec.post enc Try.prog Try.f5 false true false false) := by
  refine returnsInHanded_of_change_sized (C := Try.checked) Try.own started (by kernel_rfl) Try.func5
    (ChangeSpec.witness6 (enc := enc) (C := Try.checked) false ⟨#[], #[.slice none 0 0], []⟩ 8 (by kernel_rfl) (by kernel_rfl) (by kernel_rfl) (by kernel_rfl)) ?_
  intro W base args ds gs before hval0 hW hcnd hsz0 _
  have hsz : (DataW.weightsEach Try.prog (Try.f5.params.toList ++ Rows.ghostNilSpec.plain.varTypes Try.prog) (ds ++ gs)).all (· ≤ reachBytes) = true := hsz0
  have hval : ∀ (j : Nat) t v, Try.f5.params[j]? = some t → args[j]? = some v → Value.okWide Try.prog W .any base t v := hval0
  have hW' := hW
  obtain ⟨p, q, hA0, hV, rfl, hfz, hnd⟩ := hW
  have hA : DataW.TrodAll enc Try.prog W 0 (fun _ => true) true Try.f5.params.toList args.toList ds p := hA0
  rw [Try.params5] at hA hsz hval
  obtain ⟨v0, d0, hargs, rfl, h0⟩ := trodAll_one hA
  have hargs : args = #[v0] := by first | exact hargs | (cases args; simpa using hargs)
  subst hargs
  obtain ⟨rfl, rfl⟩ := trodVars_none hV
  obtain ⟨sa, sc, fs, rfl, hsn, hcap, hfs, hok⟩ := open_facts (hval 0 26 v0 rfl rfl) h0
  clear hA0 hval0
  obtain ⟨ok1, ln1⟩ := hok _ _ 0 hsz rfl rfl
  simp only [List.append_nil] at hW'
  have hlt : ∀ x ∈ p, x.block < W.heap.size := fun x hx => by simpa using hW'.lt x hx
  refine (tri_calls (nil_t hfs hsn ok1 ln1) ghostNil_calls (Sat.ofOld W)).mono fun e W' ⟨v, L', he, ⟨hv, hL⟩, hs⟩ => ?_
  subst hv; subst hL
  have bel : Below W.heap.size W W' := hs.below .here
  exact ⟨_, he, _, _, _, [], p, [], hW', trodAll_mk1 (shut_bool Try.underlying4 true), trodAll_mk1 (Below.trod Try.laidOut (by kernel_rfl) (of_decide_eq_true (by kernel_rfl)) h0 bel hlt), rfl, bel.frame _, fun h => by cases h⟩

theorem ghostNil_holds : Rows.GhostNilSaid :=
  OpenClaim.holds_of_wide 5 Try.f5 rfl rfl rfl rfl rfl rfl rfl ⟨rfl, rfl, rfl, rfl, rfl⟩ rfl rfl rfl rfl rfl (by kernel_rfl) Try.func5 (by kernel_rfl)
    (of_decide_eq_true (by kernel_rfl)) (by unfold Func.isWrapper; first | (rw [if_pos (by decide +kernel)]; kernel_rfl) | (rw [if_neg (by decide +kernel)]; exact ⟨rfl, rfl⟩))
    (fun os started H enc _ => ghostNil_lifted os started H enc)
end Go.Proofs.Ythjimddhnlmlhaa
