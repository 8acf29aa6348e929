/- The law MemOwn returns true at every input and leaves it as it was; no conditions. -/
import Derived.Test.YtpknnbkdkmogeaaMem
import Derived.Test.YtpknnbkdkmogeaaVc
import Derived.Test.YtpknnbkdkmogeaaRows
import Derived.ProofKit
namespace Go.Proofs.Ytpknnbkdkmogeaa
open Go.ChangeShapes Go.WideShapes Go.ChangeAt Go.RowKit Go.Vc

theorem Try.own : ownKnob Try.prog.godebug = none := by kernel_rfl
theorem Try.laidOut : laidOutB Try.prog = true := by kernel_rfl
theorem memOwn_calls (xs : Array Value) (w : World) : (callFunc 3 xs).run Try.prog w = .ok (.enter 3 xs) w := by rfl

theorem memown_t {a : Option Addr} {c : Nat} {bs : List UInt8} {L0 : List HProp} (hr : ∀ B w, Sat B w L0 → Rds w 1 (.slice a bs.length c) bs.length (bv bs)) (hm : bs.length ≤ 140737488351232) : Tri Try.prog 3 #[.slice a bs.length c] L0 (isR (.bool true) L0) := by
  by_cases h : 4096 < bs.length
  · exact memown_big hr hm h
  · exact memown_small hr hm h

set_option maxRecDepth 100000 in
theorem memOwn_lifted (os : Os) (started : os.Started) (H : Type) (enc : TypeId × Value → H) :
    ReturnsInHanded {} Try.checked os 3 .any (Rows.memOwnSpec.pre6 enc Try.prog Try.f3 Rows.memOwnRow.domain false) (Rows.memOwnSpec.post enc Try.prog Try.f3 false true false false) := by
  refine returnsInHanded_of_change_sized (C := Try.checked) Try.own started (by kernel_rfl) Try.func3
    (ChangeSpec.witness6 (enc := enc) (C := Try.checked) false ⟨#[], #[.slice none 0 0], []⟩ 8 (by kernel_rfl) (by kernel_rfl) (by kernel_rfl) (by kernel_rfl)) ?_
  intro W base args ds gs before hval0 hW hcnd hsz0 _
  have hsz : (DataW.weightsEach Try.prog (Try.f3.params.toList ++ Rows.memOwnSpec.plain.varTypes Try.prog) (ds ++ gs)).all (· ≤ reachBytes) = true := hsz0
  have hval : ∀ (j : Nat) t v, Try.f3.params[j]? = some t → args[j]? = some v → Value.okWide Try.prog W .any base t v := hval0
  have hW' := hW
  obtain ⟨p, q, hA0, hV, rfl, hfz, hnd⟩ := hW
  have hA : DataW.TrodAll enc Try.prog W 0 (fun _ => true) true Try.f3.params.toList args.toList ds p := hA0
  rw [Try.params3] at hA hsz hval
  obtain ⟨v0, d0, hargs, rfl, h0⟩ := trodAll_one hA
  have hargs : args = #[v0] := by first | exact hargs | (cases args; simpa using hargs)
  subst hargs
  obtain ⟨rfl, rfl⟩ := trodVars_none hV
  obtain ⟨a, c, bs, rfl, hr, hm⟩ := open_byt Try.underlying22 Try.underlying5 (by kernel_rfl) (by kernel_rfl) (hval 0 22 v0 rfl rfl) h0
  clear hA0 hval0
  simp only [List.append_nil] at hW'
  have hlt : ∀ x ∈ p, x.block < W.heap.size := fun x hx => by simpa using hW'.lt x hx
  refine (tri_calls (memown_t hr (hm _ _ 0 hsz rfl rfl)) memOwn_calls (Sat.ofOld W)).mono fun e W' ⟨v, L', he, ⟨hv, hL⟩, hs⟩ => ?_
  subst hv; subst hL
  have bel : Below W.heap.size W W' := hs.below .here
  exact ⟨_, he, _, _, _, [], p, [], hW', trodAll_mk1 (shut_bool Try.underlying4 true), trodAll_mk1 (Below.trod Try.laidOut (by kernel_rfl) (of_decide_eq_true (by kernel_rfl)) h0 bel hlt), rfl, bel.frame _, fun h => by cases h⟩

theorem memOwn_holds : Rows.MemOwnSaid :=
  OpenClaim.holds_of_wide 3 Try.f3 rfl rfl rfl rfl rfl rfl rfl ⟨rfl, rfl, rfl, rfl, rfl⟩ rfl rfl rfl rfl rfl (by kernel_rfl) Try.func3 (by kernel_rfl)
    (of_decide_eq_true (by kernel_rfl)) (by unfold Func.isWrapper; first | (rw [if_pos (by decide +kernel)]; kernel_rfl) | (rw [if_neg (by decide +kernel)]; exact ⟨rfl, rfl⟩))
    (fun os started H enc _ => memOwn_lifted os started H enc)
end Go.Proofs.Ytpknnbkdkmogeaa
