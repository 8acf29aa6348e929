/- The facts among the arguments, opened; no conditions. -/
import Derived.Test.YthjimddhnlmlhaaAwake
import Derived.Test.YthjimddhnlmlhaaRows
import Derived.ProofKit
import Derived.Test.YthjimddhnlmlhaaVc
namespace Go.Proofs.Ythjimddhnlmlhaa
open Go.ChangeShapes Go.WideShapes Go.ChangeAt Go.RowKit Go.Vc

theorem Try.own : ownKnob Try.prog.godebug = none := by kernel_rfl
theorem Try.laidOut : laidOutB Try.prog = true := by kernel_rfl
/-- What is known of one fact among the arguments. -/
def FactAt {H : Type} (W : World) (a : Addr) (el : DataW H) (x : FactV) : Prop :=
  (∀ j u, x.cells[j]? = some u → W.cell? (a.add j) = some u) ∧ (∀ B w, Sat B w [old W] → x.rds w) ∧ x.f.num < 4294967296 ∧ ((∀ n ∈ el.weights Try.prog 43, n ≤ reachBytes) → x.f.data.length ≤ 140737488355328)
theorem nat_u32 {z : Int} (h : (Lit.int .u32 z).wf = true) : ∃ n : Nat, z = (n : Int) ∧ n < 4294967296 := by
  have h' : 0 ≤ z ∧ z ≤ 4294967295 := by simpa [Lit.wf, IntKind.has, IntKind.min, IntKind.max, IntKind.bits, IntKind.signed] using h
  exact ⟨z.toNat, by omega, by omega⟩
theorem open_fact {H : Type} {enc : TypeId × Value → H} {W : World} {m : Nat} {a : Addr} {cs : List Value} {el : DataW H × List MemPlace} (hc : W.cells? 0 a 8 = some cs) (ht : DataW.trod enc Try.prog W 0 (fun _ => true) true m 43 cs = some el) : ∃ x : FactV, FactAt W a el.1 x := by
  have hc43 : Try.prog.cellsOf 43 = 8 := by kernel_rfl
  have e1 : Try.prog.cellsOf 3 = 1 := by kernel_rfl
  have e23 : Try.prog.cellsOf 23 = 1 := by kernel_rfl
  have e4 : Try.prog.cellsOf 4 = 1 := by kernel_rfl
  have e38 : Try.prog.cellsOf 38 = 1 := by kernel_rfl
  have e39 : Try.prog.cellsOf 39 = 1 := by kernel_rfl
  have e40 : Try.prog.cellsOf 40 = 1 := by kernel_rfl
  have e41 : Try.prog.cellsOf 41 = 1 := by kernel_rfl
  have e5 : Try.prog.cellsOf 5 = 1 := by kernel_rfl
  have b5 : Try.prog.bytesOf 5 = 1 := by kernel_rfl
  obtain ⟨xs, m', _, hx, hl, hxs, hfl⟩ := DataW.trod_struct Try.underlying43 ht
  rw [hc43] at hl
  match cs, hl with
  | [v0, v1, v2, v3, v4, v5, v6, v7], _ =>
    have hx8 : xs.length = 8 := hxs
    match xs, hx8 with
    | [q0, q1, q2, q3, q4, q5, q6, q7], _ =>
      have f0 : DataW.trod enc Try.prog W 0 (fun _ => true) true m' 38 [v0] = some q0 := by simpa [e38] using hfl 0 _ rfl
      have f1 : DataW.trod enc Try.prog W 0 (fun _ => true) true m' 3 [v1] = some q1 := by simpa [e1] using hfl 1 _ rfl
      have f2 : DataW.trod enc Try.prog W 0 (fun _ => true) true m' 39 [v2] = some q2 := by simpa [e39] using hfl 2 _ rfl
      have f3 : DataW.trod enc Try.prog W 0 (fun _ => true) true m' 23 [v3] = some q3 := by simpa [e23] using hfl 3 _ rfl
      have f4 : DataW.trod enc Try.prog W 0 (fun _ => true) true m' 23 [v4] = some q4 := by simpa [e23] using hfl 4 _ rfl
      have f5 : DataW.trod enc Try.prog W 0 (fun _ => true) true m' 4 [v5] = some q5 := by simpa [e4] using hfl 5 _ rfl
      have f6 : DataW.trod enc Try.prog W 0 (fun _ => true) true m' 40 [v6] = some q6 := by simpa [e40] using hfl 6 _ rfl
      have f7 : DataW.trod enc Try.prog W 0 (fun _ => true) true m' 41 [v7] = some q7 := by simpa [e41] using hfl 7 _ rfl
      obtain ⟨z0, h0, _⟩ := DataW.trod_int Try.underlying38 f0
      obtain ⟨z1, h1, _⟩ := DataW.trod_int Try.underlying3 f1
      obtain ⟨z2, h2, _⟩ := DataW.trod_int Try.underlying39 f2
      obtain ⟨z3, h3, _, w3⟩ := DataW.trod_int Try.underlying23 f3
      obtain ⟨z4, h4, _, w4⟩ := DataW.trod_int Try.underlying23 f4
      obtain ⟨z5, h5, _⟩ := DataW.trod_bool Try.underlying4 f5
      obtain ⟨z6, h6, _⟩ := DataW.trod_int Try.underlying40 f6
      obtain ⟨n3, rfl, _⟩ := nat_u32 w3
      obtain ⟨n4, rfl, hn4⟩ := nat_u32 w4
      cases h0; cases h1; cases h2; cases h3; cases h4; cases h5; cases h6
      have hcell := (World.cells?_some hc).2.2
      have mk : ∀ (da : Option Addr) (dc : Nat) (ds : List UInt8), v7 = .slice da ds.length dc → ∀ j u, (FactV.mk ⟨z0, z1, z2, n3, n4, z5, z6, ds⟩ da dc).cells[j]? = some u → W.cell? (a.add j) = some u := by
        intro da dc ds hv j u hj
        subst hv
        have hlt : j < 8 := (List.getElem?_eq_some_iff.1 hj).1
        have := hcell j hlt
        rw [this, ← hj]
      rcases open_ints Try.underlying41 Try.underlying5 e5 f7 with ⟨h7, _⟩ | ⟨da, len, cap, zs, h7, _, hle, hmax, hlen, hx7, hcd, hwf⟩
      · cases h7
        exact ⟨⟨⟨z0, z1, z2, n3, n4, z5, z6, []⟩, none, 0⟩, mk none 0 [] rfl, fun B w _ => ⟨rfl, none, 0, rfl, fun _ => ⟨rfl, rfl⟩, fun _ h => by cases h⟩, hn4, fun _ => Nat.zero_le _⟩
      · rw [if_pos rfl] at hlen
        have hld : ((zs.take len).map Vc.byteOf).length = len := by simp; omega
        have hv7 : v7 = .slice (some da) ((zs.take len).map Vc.byteOf).length cap := by rw [hld]; simpa using h7
        refine ⟨⟨⟨z0, z1, z2, n3, n4, z5, z6, (zs.take len).map Vc.byteOf⟩, some da, cap⟩, mk _ _ _ hv7, fun B w s => ⟨by simp [bv], some da, cap, rfl, (fun h => by cases h), fun ad had j u hu => ?_⟩, hn4, fun hsz => ?_⟩
        · cases had
          simp only [bv, List.getElem?_map, List.getElem?_take] at hu
          split at hu
          · obtain ⟨b, h2, rfl⟩ := Option.map_eq_some_iff.1 hu
            obtain ⟨z, h3, rfl⟩ := Option.map_eq_some_iff.1 h2
            have hj : j < zs.length := (List.getElem?_eq_some_iff.1 h3).1
            have hz := hcd j hj
            rw [List.getD, h3, Option.getD_some] at hz
            rw [Vc.byteOf_nat (hwf z (List.mem_of_getElem? h3))]
            exact s.cellOld .here hz
          · cases hu
        · show ((zs.take len).map Vc.byteOf).length ≤ _
          rw [hld]
          have hq7 : q7.1 = .slice (lits .u8 (zs.take len)) (lits .u8 (zs.drop len)) := congrArg Prod.fst hx7
          have hel : el.1 = .agg [q0.1, q1.1, q2.1, q3.1, q4.1, q5.1, q6.1, q7.1] := congrArg Prod.fst hx
          have hw : ((lits (H := H) .u8 (zs.take len)).length + (lits (H := H) .u8 (zs.drop len)).length) * Try.prog.bytesOf 5 ∈ el.1.weights Try.prog 43 := by
            rw [hel]
            unfold DataW.weights
            rw [Try.underlying43]
            refine DataW.weights_mem_each (j := 7) (t := 41) (d := q7.1) rfl rfl _ ?_
            rw [hq7]
            unfold DataW.weights
            rw [Try.underlying41]
            exact List.mem_cons_self
          have := hsz _ hw
          rw [b5, Nat.mul_one] at this
          have e2 : (lits (H := H) .u8 (zs.take len)).length = len := by simp [lits]; omega
          rw [e2] at this
          have hrb : reachBytes < 2 ^ 47 := reachBytes_lt
          omega
theorem weights_all {H : Type} {P : Program} {e : TypeId} : ∀ {l : List (DataW H)} {d : DataW H}, d ∈ l → ∀ n ∈ d.weights P e, n ∈ DataW.weightsAll P e l
  | x :: l, d, h, n, hn => by
    unfold DataW.weightsAll
    rcases List.mem_cons.1 h with rfl | h
    · exact List.mem_append_left _ hn
    · exact List.mem_append_right _ (weights_all h n hn)
/-- The facts among the arguments. -/
theorem open_facts {H : Type} {enc : TypeId × Value → H} {W : World} {v : Value} {d : DataW H} {ps : List MemPlace} {rr : Reach} {b0 : Nat} (hval : Value.okWide Try.prog W rr b0 26 v)
    (h : DataW.Trod enc Try.prog W 0 (fun _ => true) true 26 v d ps) :
    ∃ (sa : Option Addr) (sc : Nat) (fs : List FactV), v = .slice sa fs.length sc ∧ (sa = none → fs.length = 0 ∧ sc = 0) ∧ fs.length ≤ sc ∧ (∀ B w, Sat B w [old W] → RdFs w sa fs) ∧
      (∀ (ts : List TypeId) (ds : List (DataW H)) (j : Nat), (DataW.weightsEach Try.prog ts ds).all (· ≤ reachBytes) = true → ts[j]? = some 26 → ds[j]? = some d → (∀ x ∈ fs, x.f.ok) ∧ fs.length * 72 ≤ 140737488355328) := by
  obtain ⟨a0, l0, k0, rfl⟩ := okWide_slice Try.underlying26 hval
  obtain ⟨fuel, hf⟩ := h
  have hc43 : Try.prog.cellsOf 43 = 8 := by kernel_rfl
  have hb43 : Try.prog.bytesOf 43 = 72 := by kernel_rfl
  rcases DataW.trod_slice Try.underlying26 hf with ⟨hcs, _⟩ | ⟨a, len, cap, elems, rest, m, _, hcs, hxd, _, hlc, _, hlen, hel, _, _⟩
  · have hv : Value.slice a0 l0 k0 = .slice none 0 0 := by simpa [Value.cells] using hcs
    cases hv
    exact ⟨none, 0, [], rfl, fun _ => ⟨rfl, rfl⟩, Nat.le_refl _, fun B w _ => ⟨fun _ => rfl, fun _ h => (by cases h), fun x hx => by cases hx⟩, fun _ _ _ _ _ _ => ⟨fun x hx => (by cases hx), Nat.zero_le _⟩⟩
  · have hv : Value.slice a0 l0 k0 = .slice (some a) len cap := by simpa [Value.cells] using hcs
    obtain ⟨rfl, rfl, rfl⟩ : a0 = some a ∧ l0 = len ∧ k0 = cap := by simpa using hv
    have each : ∀ i, i < l0 → ∃ x : FactV, ∃ el, elems[i]? = some el ∧ FactAt W (a.add (i * 8)) el.1 x := by
      intro i hi
      have h1 := hel i hi
      have h2 : elems[i]? = some (elems[i]'(by omega)) := List.getElem?_eq_getElem _
      rw [h2, Option.bind_eq_some_iff, hc43] at h1
      obtain ⟨cs, hcells, ht⟩ := h1
      obtain ⟨x, hx⟩ := open_fact hcells ht
      exact ⟨x, _, h2, hx⟩
    let fs := List.ofFn fun i : Fin l0 => (each i.1 i.2).choose
    have hfl : fs.length = l0 := List.length_ofFn
    have hget : ∀ i x, fs[i]? = some x → ∃ el, elems[i]? = some el ∧ FactAt W (a.add (i * 8)) el.1 x := by
      intro i x hx
      have hi : i < l0 := by rw [← hfl]; exact (List.getElem?_eq_some_iff.1 hx).1
      have e : fs[i]? = some (each i hi).choose := by
        rw [List.getElem?_ofFn, dif_pos hi]
      rw [e] at hx
      cases hx
      exact (each i hi).choose_spec
    refine ⟨some a, k0, fs, by rw [hfl], (fun h => by cases h), by omega, fun B w s => ⟨(fun h => by cases h), fun ad had i x hx j u hj => ?_, fun x hx => ?_⟩, fun ts ds j hs h1 h2 => ⟨fun x hx => ?_, ?_⟩⟩
    · cases had
      obtain ⟨el, _, hA⟩ := hget i x hx
      exact s.cellOld .here (hA.1 j u hj)
    · obtain ⟨i, hi, rfl⟩ := List.getElem_of_mem hx
      obtain ⟨el, _, hA⟩ := hget i _ (List.getElem?_eq_getElem hi)
      exact hA.2.1 B w s
    · obtain ⟨i, hi, rfl⟩ := List.getElem_of_mem hx
      obtain ⟨el, he, hA⟩ := hget i _ (List.getElem?_eq_getElem hi)
      refine ⟨hA.2.2.2 fun n hn => ?_, hA.2.2.1⟩
      have hd : d = .slice (elems.map (·.1)) (rest.map (·.1)) := congrArg Prod.fst hxd
      have hm : n ∈ d.weights Try.prog 26 := by
        rw [hd]
        unfold DataW.weights
        rw [Try.underlying26]
        exact List.mem_cons_of_mem _ (List.mem_append_left _ (weights_all (List.mem_map.2 ⟨el, List.mem_of_getElem? he, rfl⟩) n hn))
      have := List.all_eq_true.1 hs n (DataW.weights_mem_each h1 h2 n hm)
      simpa using this
    · have hd : d = .slice (elems.map (·.1)) (rest.map (·.1)) := congrArg Prod.fst hxd
      subst hd
      have := sized_slice hs h1 h2 Try.underlying26
      rw [hb43, List.length_map, hlen] at this
      have hrb : reachBytes < 2 ^ 47 := reachBytes_lt
      rw [hfl]
      omega
end Go.Proofs.Ythjimddhnlmlhaa
