/- The net among the arguments, opened; no conditions. -/
import Derived.Test.YthjimddhnlmlhaaArgs
import Derived.Test.YthjimddhnlmlhaaJudgesWalk
namespace Go.Proofs.Ythjimddhnlmlhaa
open Go.ChangeShapes Go.WideShapes Go.ChangeAt Go.RowKit Go.Vc
/-- A set, as it lies in memory. -/
structure ParV where
  c : Int
  o : Int
  i : Int
  w : Int
  n : Int
abbrev ParV.cells (x : ParV) : List Value := [.int .u32 x.c, .int .i64 x.o, .int .i64 x.i, .int .i64 x.w, .int .u32 x.n]
def pcells (l : List ParV) : List Value := l.flatMap ParV.cells
theorem pcells_len (l : List ParV) : (pcells l).length = l.length * 5 := by
  induction l with
  | nil => rfl
  | cons x l ih => unfold pcells at ih ⊢; rw [List.flatMap_cons, List.length_append, ih]; simp; omega
theorem pcells_mid (l1 l2 : List ParV) (x : ParV) : pcells (l1 ++ x :: l2) = pcells l1 ++ (x.cells ++ pcells l2) := by simp [pcells, List.flatMap_append, List.flatMap_cons]
theorem pcells_get {l : List ParV} {i : Nat} {x : ParV} (h : l[i]? = some x) {j : Nat} {u : Value} (hj : x.cells[j]? = some u) : (pcells l)[i * 5 + j]? = some u := by
  obtain ⟨hi, rfl⟩ := List.getElem?_eq_some_iff.1 h
  have e : l = l.take i ++ l[i] :: l.drop (i + 1) := by rw [List.getElem_cons_drop hi, List.take_append_drop]
  have hl : (pcells (l.take i)).length = i * 5 := by rw [pcells_len, List.length_take]; omega
  rw [e, pcells_mid, ← hl, mid_get, List.getElem?_append_left (List.getElem?_eq_some_iff.1 hj).1]
  exact hj
theorem pcells_inv {l : List ParV} {q : Nat} {u : Value} (h : (pcells l)[q]? = some u) : ∃ i j x, q = i * 5 + j ∧ l[i]? = some x ∧ x.cells[j]? = some u := by
  have hq : q < l.length * 5 := by rw [← pcells_len]; exact (List.getElem?_eq_some_iff.1 h).1
  have hi : q / 5 < l.length := by omega
  refine ⟨q / 5, q % 5, l[q / 5], by omega, List.getElem?_eq_getElem hi, ?_⟩
  have hj : (l[q / 5]).cells[q % 5]? = some ((l[q / 5]).cells[q % 5]'(by simp; omega)) := List.getElem?_eq_getElem _
  rw [hj]
  have := pcells_get (List.getElem?_eq_getElem hi) hj
  rw [show q / 5 * 5 + q % 5 = q by omega, h] at this
  exact this.symm
theorem pcells_one (l : List ParV) : ∀ u ∈ pcells l, u.oneCell' = true := by
  intro u hu
  obtain ⟨x, _, hx⟩ := List.mem_flatMap.1 hu
  simp only [ParV.cells, List.mem_cons, List.not_mem_nil, or_false] at hx
  rcases hx with rfl | rfl | rfl | rfl | rfl <;> rfl
theorem i64_ok {z : Int} (h : (Lit.int .i64 z).wf = true) : -9223372036854775808 ≤ z ∧ z ≤ 9223372036854775807 := by
  simpa [Lit.wf, IntKind.has, IntKind.min, IntKind.max, IntKind.bits, IntKind.signed] using h
theorem open_par {H : Type} {enc : TypeId × Value → H} {W : World} {m : Nat} {a : Addr} {cs : List Value} {el : DataW H × List MemPlace} (hc : W.cells? 0 a 5 = some cs) (ht : DataW.trod enc Try.prog W 0 (fun _ => true) true m 66 cs = some el) :
    ∃ x : ParV, (∀ j u, x.cells[j]? = some u → W.cell? (a.add j) = some u) ∧ (-9223372036854775808 ≤ x.w ∧ x.w ≤ 9223372036854775807) := by
  have hc66 : Try.prog.cellsOf 66 = 5 := by kernel_rfl
  have e1 : Try.prog.cellsOf 3 = 1 := by kernel_rfl
  have e23 : Try.prog.cellsOf 23 = 1 := by kernel_rfl
  obtain ⟨xs, m', _, hx, hl, hxs, hfl⟩ := DataW.trod_struct Try.underlying66 ht
  rw [hc66] at hl
  match cs, hl with
  | [v0, v1, v2, v3, v4], _ =>
    have hx5 : xs.length = 5 := hxs
    match xs, hx5 with
    | [q0, q1, q2, q3, q4], _ =>
      have f0 : DataW.trod enc Try.prog W 0 (fun _ => true) true m' 23 [v0] = some q0 := by simpa [e23] using hfl 0 _ rfl
      have f1 : DataW.trod enc Try.prog W 0 (fun _ => true) true m' 3 [v1] = some q1 := by simpa [e1] using hfl 1 _ rfl
      have f2 : DataW.trod enc Try.prog W 0 (fun _ => true) true m' 3 [v2] = some q2 := by simpa [e1] using hfl 2 _ rfl
      have f3 : DataW.trod enc Try.prog W 0 (fun _ => true) true m' 3 [v3] = some q3 := by simpa [e1] using hfl 3 _ rfl
      have f4 : DataW.trod enc Try.prog W 0 (fun _ => true) true m' 23 [v4] = some q4 := by simpa [e23] using hfl 4 _ rfl
      obtain ⟨z0, h0, _⟩ := DataW.trod_int Try.underlying23 f0
      obtain ⟨z1, h1, _⟩ := DataW.trod_int Try.underlying3 f1
      obtain ⟨z2, h2, _⟩ := DataW.trod_int Try.underlying3 f2
      obtain ⟨z3, h3, _, w3⟩ := DataW.trod_int Try.underlying3 f3
      obtain ⟨z4, h4, _⟩ := DataW.trod_int Try.underlying23 f4
      cases h0; cases h1; cases h2; cases h3; cases h4
      have hcell := (World.cells?_some hc).2.2
      exact ⟨⟨z0, z1, z2, z3, z4⟩, fun j u hj => by
        have hlt : j < 5 := (List.getElem?_eq_some_iff.1 hj).1
        rw [hcell j hlt, ← hj], i64_ok w3⟩
theorem open_pars {H : Type} {enc : TypeId × Value → H} {W : World} {m : Nat} {v : Value} {y : DataW H × List MemPlace} (hf : DataW.trod enc Try.prog W 0 (fun _ => true) true m 22 [v] = some y) :
    ∃ (a : Option Addr) (c : Nat) (ws : List Int) (ps : List Value), v = .slice a ws.length c ∧ (∀ B w, Sat B w [old W] → RdNet w a c ws ps) ∧ (∀ u ∈ ps, u.oneCell' = true) ∧ (∀ i x, ws[i]? = some x → ps[i * 5 + 3]? = some (.int .i64 x)) ∧ okW ws := by
  have hc66 : Try.prog.cellsOf 66 = 5 := by kernel_rfl
  rcases DataW.trod_slice Try.underlying22 hf with ⟨hcs, _⟩ | ⟨a, len, cap, elems, rest, m', _, hcs, _, _, hlc, _, hlen, hel, _, _⟩
  · cases hcs
    exact ⟨none, 0, [], [], rfl, fun B w _ => ⟨⟨rfl, none, 0, rfl, fun _ => ⟨rfl, rfl⟩, fun _ h => by cases h⟩, fun i x h => by cases h⟩, fun u h => (by cases h), fun i x h => (by cases h), fun w h => by cases h⟩
  · cases hcs
    have each : ∀ i, i < len → ∃ x : ParV, (∀ j u, x.cells[j]? = some u → W.cell? ((a.add (i * 5)).add j) = some u) ∧ (-9223372036854775808 ≤ x.w ∧ x.w ≤ 9223372036854775807) := by
      intro i hi
      have h1 := hel i hi
      have h2 : elems[i]? = some (elems[i]'(by omega)) := List.getElem?_eq_getElem _
      rw [h2, Option.bind_eq_some_iff, hc66] at h1
      obtain ⟨cs, hcells, ht⟩ := h1
      exact open_par hcells ht
    let l := List.ofFn fun i : Fin len => (each i.1 i.2).choose
    have hll : l.length = len := List.length_ofFn
    have hget : ∀ i x, l[i]? = some x → (∀ j u, x.cells[j]? = some u → W.cell? ((a.add (i * 5)).add j) = some u) ∧ (-9223372036854775808 ≤ x.w ∧ x.w ≤ 9223372036854775807) := by
      intro i x hx
      have hi : i < len := by rw [← hll]; exact (List.getElem?_eq_some_iff.1 hx).1
      have e : l[i]? = some (each i hi).choose := by rw [List.getElem?_ofFn, dif_pos hi]
      rw [e] at hx
      cases hx
      exact (each i hi).choose_spec
    have hq : ∀ (i : Nat) (x : Int), (l.map (·.w))[i]? = some x → (pcells l)[i * 5 + 3]? = some (.int .i64 x) := by
      intro i x h
      rw [List.getElem?_map] at h
      obtain ⟨y, hy, rfl⟩ := Option.map_eq_some_iff.1 h
      exact pcells_get hy rfl
    refine ⟨some a, cap, l.map (·.w), pcells l, by rw [List.length_map, hll], fun B w s => ⟨⟨by rw [pcells_len, List.length_map], some a, cap, rfl, (fun h => by cases h), fun ad had q u hu => ?_⟩, hq⟩, pcells_one l, hq, fun w hw => ?_⟩
    · cases had
      obtain ⟨i, j, x, rfl, hi, hj⟩ := pcells_inv hu
      rw [← Addr.add_add]
      exact s.cellOld .here ((hget i x hi).1 j u hj)
    · obtain ⟨x, hx, rfl⟩ := List.mem_map.1 hw
      obtain ⟨i, hi, rfl⟩ := List.getElem_of_mem hx
      exact (hget i _ (List.getElem?_eq_getElem hi)).2
/-- The net among the arguments. -/
theorem open_net {H : Type} {enc : TypeId × Value → H} {W : World} {v : Value} {d : DataW H} {ps : List MemPlace} {rr : Reach} {b0 : Nat} (hval : Value.okWide Try.prog W rr b0 25 v)
    (h : DataW.Trod enc Try.prog W 0 (fun _ => true) true 25 v d ps) :
    ∃ (ah ad : Option Addr) (ch cd : Nat) (mx : Int) (hs ds : List Int) (ph pd : List Value), v = .agg ⟨[.slice ah hs.length ch, .slice ad ds.length cd, .int .u32 mx]⟩ ∧ (∀ B w, Sat B w [old W] → RdNet w ah ch hs ph ∧ RdNet w ad cd ds pd) ∧
      (∀ u ∈ ph, u.oneCell' = true) ∧ (∀ u ∈ pd, u.oneCell' = true) ∧ (∀ i x, hs[i]? = some x → ph[i * 5 + 3]? = some (.int .i64 x)) ∧ (∀ i x, ds[i]? = some x → pd[i * 5 + 3]? = some (.int .i64 x)) ∧ okW hs ∧ okW ds := by
  have hc25 : Try.prog.cellsOf 25 = 3 := by kernel_rfl
  have e22 : Try.prog.cellsOf 22 = 1 := by kernel_rfl
  have e23 : Try.prog.cellsOf 23 = 1 := by kernel_rfl
  obtain ⟨⟨cs⟩, rfl, hsz⟩ := okWide_struct Try.underlying25 hval
  rw [hc25] at hsz
  obtain ⟨fuel, hf⟩ := h
  obtain ⟨xs, m', _, _, _, hxs, hfl⟩ := DataW.trod_struct Try.underlying25 hf
  have hcl : cs.length = 3 := hsz
  match cs, hcl with
  | [v0, v1, v2], _ =>
    have hx3 : xs.length = 3 := hxs
    match xs, hx3 with
    | [q0, q1, q2], _ =>
      have f0 : DataW.trod enc Try.prog W 0 (fun _ => true) true m' 22 [v0] = some q0 := by simpa [e22, Value.cells] using hfl 0 _ rfl
      have f1 : DataW.trod enc Try.prog W 0 (fun _ => true) true m' 22 [v1] = some q1 := by simpa [e22, Value.cells] using hfl 1 _ rfl
      have f2 : DataW.trod enc Try.prog W 0 (fun _ => true) true m' 23 [v2] = some q2 := by simpa [e23, Value.cells] using hfl 2 _ rfl
      obtain ⟨ah, ch, hs, ph, rfl, r1, o1, g1, w1⟩ := open_pars f0
      obtain ⟨ad, cd, ds, pd, rfl, r2, o2, g2, w2⟩ := open_pars f1
      obtain ⟨z, h2, _⟩ := DataW.trod_int Try.underlying23 f2
      cases h2
      exact ⟨ah, ad, ch, cd, z, hs, ds, ph, pd, rfl, fun B w s => ⟨r1 B w s, r2 B w s⟩, o1, o2, g1, g2, w1, w2⟩
end Go.Proofs.Ythjimddhnlmlhaa
