/- GhostStarts returns true for every input and its arguments read as before; no conditions. -/
import Derived.Test.YthjimddhnlmlhaaStartsWalk
import Derived.Test.YthjimddhnlmlhaaArgs
import Derived.Test.YthjimddhnlmlhaaRows
import Derived.ProofKit
namespace Go.Proofs.Ythjimddhnlmlhaa
open Go.ChangeShapes Go.WideShapes Go.ChangeAt Go.RowKit Go.Vc

theorem ghostStarts_calls (xs : Array Value) (w : World) : (callFunc 4 xs).run Try.prog w = .ok (.enter 4 xs) w := by rfl
set_option maxRecDepth 100000 in
theorem ghostStarts_lifted (os : Os) (started : os.Started) (H : Type) (enc : TypeId × Value → H) :
    ReturnsInHanded {} Try.checked os 4 .any (Rows.ghostStartsSpec.pre6 enc Try.prog Try.f4 Rows.ghostStartsRow.domain false) (Rows.ghostStartsSpec.post enc Try.prog Try.f4 false true false false) := by
  refine returnsInHanded_of_change_sized (C := Try.checked) Try.own started (by kernel_rfl) Try.func4
    (ChangeSpec.witness6 (enc := enc) (C := Try.checked) false ⟨#[], #[.slice none 0 0, .slice none 0 0, .int .i64 0], []⟩ 8 (by kernel_rfl) (by kernel_rfl) (by kernel_rfl) (by kernel_rfl)) ?_
  intro W base args ds gs before hval0 hW hcnd hsz0 _
  have hsz : (DataW.weightsEach Try.prog (Try.f4.params.toList ++ Rows.ghostStartsSpec.plain.varTypes Try.prog) (ds ++ gs)).all (· ≤ reachBytes) = true := hsz0
  have hval : ∀ (j : Nat) t v, Try.f4.params[j]? = some t → args[j]? = some v → Value.okWide Try.prog W .any base t v := hval0
  have hW' := hW
  obtain ⟨p, q, hA0, hV, rfl, hfz, hnd⟩ := hW
  have hA : DataW.TrodAll enc Try.prog W 0 (fun _ => true) true Try.f4.params.toList args.toList ds p := hA0
  rw [Try.params4] at hA hsz hval
  obtain ⟨v0, v1, v2, d0, d1, d2, p0, p1, p2, hargs, rfl, rfl, h0, h1, h2⟩ := trodAll_three hA
  subst hargs
  obtain ⟨rfl, rfl⟩ := trodVars_none hV
  obtain ⟨sa, sc, fs, rfl, hsn, hcap, hfs, hok⟩ := open_facts (hval 0 26 v0 rfl rfl) h0
  obtain ⟨sb, sd, ms, rfl, hsn2, _, hgs, hok2⟩ := open_facts (hval 1 26 v1 rfl rfl) h1
  obtain ⟨z, rfl, rfl, rfl, wz⟩ := open_int Try.underlying3 (hval 2 3 v2 rfl rfl) h2
  clear hA0 hval0
  obtain ⟨ok1, ln1⟩ := hok _ _ 0 hsz rfl rfl
  obtain ⟨ok2, ln2⟩ := hok2 _ _ 1 hsz rfl rfl
  simp only [List.append_nil] at hW'
  have hlt : ∀ x ∈ p0 ++ p1, x.block < W.heap.size := fun x hx => by simpa using hW'.lt x (by simp at hx ⊢; exact hx)
  refine (tri_calls (starts_t (cut := z) hfs hgs hsn hsn2 hcap ok1 ok2 ln1 ln2) ghostStarts_calls (Sat.ofOld W)).mono fun e W' ⟨v, L', he, ⟨hv, hL⟩, hs⟩ => ?_
  subst hv; subst hL
  have bel : Below W.heap.size W W' := hs.below .here
  exact ⟨_, he, _, _, _, [], _, [], hW', trodAll_mk1 (shut_bool Try.underlying4 true), trodAll_mk3 (Below.trod Try.laidOut (by kernel_rfl) (of_decide_eq_true (by kernel_rfl)) h0 bel (fun x hx => hlt x (by simp [hx]))) (Below.trod Try.laidOut (by kernel_rfl) (of_decide_eq_true (by kernel_rfl)) h1 bel (fun x hx => hlt x (by simp [hx]))) (shut_int Try.underlying3 wz), rfl, bel.frame _, fun h => by cases h⟩

theorem ghostStarts_holds : Rows.GhostStartsSaid :=
  OpenClaim.holds_of_wide 4 Try.f4 rfl rfl rfl rfl rfl rfl rfl ⟨rfl, rfl, rfl, rfl, rfl⟩ rfl rfl rfl rfl rfl (by kernel_rfl) Try.func4 (by kernel_rfl)
    (of_decide_eq_true (by kernel_rfl)) (by unfold Func.isWrapper; first | (rw [if_pos (by decide +kernel)]; kernel_rfl) | (rw [if_neg (by decide +kernel)]; exact ⟨rfl, rfl⟩))
    (fun os started H enc _ => ghostStarts_lifted os started H enc)
end Go.Proofs.Ythjimddhnlmlhaa
