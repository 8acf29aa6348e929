/- The law CellPlays returns true at every input and leaves it as it was; no conditions. -/
import Derived.Test.YtpknnbkdkmogeaaPlays
import Derived.Test.YtpknnbkdkmogeaaVc
import Derived.Test.YtpknnbkdkmogeaaRows
import Derived.ProofKit
namespace Go.Proofs.Ytpknnbkdkmogeaa
open Go.ChangeShapes Go.WideShapes Go.ChangeAt Go.RowKit Go.Vc

theorem Try.own : ownKnob Try.prog.godebug = none := by kernel_rfl
theorem Try.laidOut : laidOutB Try.prog = true := by kernel_rfl
theorem cellPlays_calls (xs : Array Value) (w : World) : (callFunc 4 xs).run Try.prog w = .ok (.enter 4 xs) w := by rfl

theorem plays_t {a sa : Option Addr} {c sc n mx : Nat} {bs : List UInt8} {kd ar : Nat → Int} {L0 : List HProp} (hr : ∀ B w, Sat B w L0 → Rds w 1 (.slice a bs.length c) bs.length (bv bs)) (hs : ∀ B w, Sat B w L0 → RdOps w sa n kd ar) (hm : bs.length ≤ 140737488351232) (hx : mx < 4294967296) :
    Tri Try.prog 4 #[.slice a bs.length c, .int .u32 (mx : Int), .slice sa n sc] L0 (isR (.bool true) L0) := by
  by_cases h : 4096 < bs.length
  · exact plays_big hr hs hm hx h
  · exact plays_small hr hs hm hx h

/-- The script among the arguments: each element's two numbers. -/
theorem open_ops {H : Type} {enc : TypeId × Value → H} {W : World} {v : Value} {d : DataW H} {ps : List MemPlace} {rr : Reach} {b0 : Nat} (hval : Value.okWide Try.prog W rr b0 36 v)
    (h : DataW.Trod enc Try.prog W 0 (fun _ => true) true 36 v d ps) :
    ∃ (sa : Option Addr) (n c : Nat) (kd ar : Nat → Int), v = .slice sa n c ∧ ∀ B w, Sat B w [old W] → RdOps w sa n kd ar := by
  obtain ⟨a0, l0, c0, rfl⟩ := okWide_slice Try.underlying36 hval
  obtain ⟨fuel, hf⟩ := h
  rcases DataW.trod_slice Try.underlying36 hf with ⟨hcs, _⟩ | ⟨a, len, cap, elems, rest, m, _, hcs, _, _, _, _, hlen, hel, _, _⟩
  · have hv : Value.slice a0 l0 c0 = .slice none 0 0 := by simpa [Value.cells] using hcs
    cases hv
    exact ⟨none, 0, 0, fun _ => 0, fun _ => 0, rfl, fun B w _ => ⟨fun _ => rfl, fun _ h => by cases h⟩⟩
  · have hv : Value.slice a0 l0 c0 = .slice (some a) len cap := by simpa [Value.cells] using hcs
    obtain ⟨rfl, rfl, rfl⟩ : a0 = some a ∧ l0 = len ∧ c0 = cap := by simpa using hv
    have hc53 : Try.prog.cellsOf 53 = 2 := by kernel_rfl
    have hc3 : Try.prog.cellsOf 3 = 1 := by kernel_rfl
    have each : ∀ i, i < l0 → ∃ x y : Int, W.cell? ((a.add (i * 2)).add 0) = some (.int .i64 x) ∧ W.cell? ((a.add (i * 2)).add 1) = some (.int .i64 y) := by
      intro i hi
      have h1 := hel i hi
      have h2 : elems[i]? = some (elems[i]'(by omega)) := List.getElem?_eq_getElem _
      rw [h2, Option.bind_eq_some_iff, hc53] at h1
      obtain ⟨cs, hcells, ht⟩ := h1
      obtain ⟨xs, m', _, _, hl2, hxs, hfl⟩ := DataW.trod_struct Try.underlying53 ht
      rw [hc53] at hl2
      match cs, hl2 with
      | [u, v], _ =>
        have f0 := hfl 0 _ rfl
        have f1 := hfl 1 _ rfl
        have hx2 : xs.length = 2 := hxs
        match xs, hx2 with
        | [p, q], _ =>
          have g0 : DataW.trod enc Try.prog W 0 (fun _ => true) true m' 3 [u] = some p := by simpa [hc3] using f0
          have g1 : DataW.trod enc Try.prog W 0 (fun _ => true) true m' 3 [v] = some q := by simpa [hc3] using f1
          obtain ⟨x, hx, _⟩ := DataW.trod_int Try.underlying3 g0
          obtain ⟨y, hy, _⟩ := DataW.trod_int Try.underlying3 g1
          cases hx; cases hy
          have hh := (World.cells?_some hcells).2.2
          exact ⟨x, y, hh 0 (by decide), hh 1 (by decide)⟩
    let kd := fun i => if h : i < l0 then (each i h).choose else 0
    let ar := fun i => if h : i < l0 then (each i h).choose_spec.choose else 0
    refine ⟨some a, l0, c0, kd, ar, rfl, fun B w s => ⟨fun h => (by cases h), fun ad had i hi => ?_⟩⟩
    cases had
    have h := (each i hi).choose_spec.choose_spec
    have e1 : kd i = (each i hi).choose := dif_pos hi
    have e2 : ar i = (each i hi).choose_spec.choose := dif_pos hi
    rw [e1, e2]
    exact ⟨s.cellOld .here h.1, s.cellOld .here h.2⟩

set_option maxRecDepth 100000 in
theorem cellPlays_lifted (os : Os) (started : os.Started) (H : Type) (enc : TypeId × Value → H) :
    ReturnsInHanded {} Try.checked os 4 .any (Rows.cellPlaysSpec.pre6 enc Try.prog Try.f4 Rows.cellPlaysRow.domain false) (Rows.cellPlaysSpec.post enc Try.prog Try.f4 false true false false) := by
  refine returnsInHanded_of_change_sized (C := Try.checked) Try.own started (by kernel_rfl) Try.func4
    (ChangeSpec.witness6 (enc := enc) (C := Try.checked) false ⟨#[], #[.slice none 0 0, .int .u32 0, .slice none 0 0], []⟩ 8 (by kernel_rfl) (by kernel_rfl) (by kernel_rfl) (by kernel_rfl)) ?_
  intro W base args ds gs before hval0 hW hcnd hsz0 _
  have hsz : (DataW.weightsEach Try.prog (Try.f4.params.toList ++ Rows.cellPlaysSpec.plain.varTypes Try.prog) (ds ++ gs)).all (· ≤ reachBytes) = true := hsz0
  have hval : ∀ (j : Nat) t v, Try.f4.params[j]? = some t → args[j]? = some v → Value.okWide Try.prog W .any base t v := hval0
  have hW' := hW
  obtain ⟨p, q, hA0, hV, rfl, hfz, hnd⟩ := hW
  have hA : DataW.TrodAll enc Try.prog W 0 (fun _ => true) true Try.f4.params.toList args.toList ds p := hA0
  rw [Try.params4] at hA hsz hval
  obtain ⟨v0, v1, v2, d0, d1, d2, p0, p1, p2, hargs, rfl, rfl, h0, h1, h2⟩ := trodAll_three hA
  subst hargs
  obtain ⟨rfl, rfl⟩ := trodVars_none hV
  obtain ⟨a, c, bs, rfl, hr, hm⟩ := open_byt Try.underlying22 Try.underlying5 (by kernel_rfl) (by kernel_rfl) (hval 0 22 v0 rfl rfl) h0
  obtain ⟨z, rfl, rfl, rfl, wz⟩ := open_int Try.underlying35 (hval 1 35 v1 rfl rfl) h1
  obtain ⟨sa, n, sc, kd, ar, rfl, hs⟩ := open_ops (hval 2 36 v2 rfl rfl) h2
  clear hA0 hval0
  obtain ⟨mx, rfl, hx⟩ : ∃ mx : Nat, z = (mx : Int) ∧ mx < 4294967296 := by
    have h' : 0 ≤ z ∧ z ≤ 4294967295 := by simpa [Lit.wf, IntKind.has, IntKind.min, IntKind.max, IntKind.bits, IntKind.signed] using wz
    exact ⟨z.toNat, by omega, by omega⟩
  simp only [List.append_nil] at hW'
  have hlt : ∀ x ∈ p0 ++ p2, x.block < W.heap.size := fun x hx => by simpa using hW'.lt x hx
  refine (tri_calls (plays_t hr hs (hm _ _ 0 hsz rfl rfl) hx) cellPlays_calls (Sat.ofOld W)).mono fun e W' ⟨v, L', he, ⟨hv, hL⟩, hs⟩ => ?_
  subst hv; subst hL
  have bel : Below W.heap.size W W' := hs.below .here
  exact ⟨_, he, _, _, _, [], _, [], hW', trodAll_mk1 (shut_bool Try.underlying4 true), trodAll_mk3 (Below.trod Try.laidOut (by kernel_rfl) (of_decide_eq_true (by kernel_rfl)) h0 bel (fun x hx => hlt x (by simp [hx]))) (shut_int Try.underlying35 wz) (Below.trod Try.laidOut (by kernel_rfl) (of_decide_eq_true (by kernel_rfl)) h2 bel (fun x hx => hlt x (by simp [hx]))), rfl, bel.frame _, fun h => by cases h⟩

theorem cellPlays_holds : Rows.CellPlaysSaid :=
  OpenClaim.holds_of_wide 4 Try.f4 rfl rfl rfl rfl rfl rfl rfl ⟨rfl, rfl, rfl, rfl, rfl⟩ rfl rfl rfl rfl rfl (by kernel_rfl) Try.func4 (by kernel_rfl)
    (of_decide_eq_true (by kernel_rfl)) (by unfold Func.isWrapper; first | (rw [if_pos (by decide +kernel)]; kernel_rfl) | (rw [if_neg (by decide +kernel)]; exact ⟨rfl, rfl⟩))
    (fun os started H enc _ => cellPlays_lifted os started H enc)
end Go.Proofs.Ytpknnbkdkmogeaa
