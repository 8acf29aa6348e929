/- What CellPlays computes; no conditions. -/
import Derived.Test.YtpknnbkdkmogeaaCell
import Derived.Test.YtpknnbkdkmogeaaVc
namespace Go.Proofs.Ytpknnbkdkmogeaa
open Go.Vc

def cs0 : MemS := ⟨List.replicate 10 0, false, false, 0, 0, false⟩
def cs1 : MemS := ⟨[165, 0, 0, 0, 1, 0, 0, 0, 0, 0], false, false, 0, 6, false⟩
def cs2 : MemS := ⟨[165, 0, 0, 0, 1, 165, 0, 0, 0, 2], false, false, 0, 12, false⟩
theorem co0 : cs0.open 3 = (0, cs0) := by rfl
theorem cv0 : cs0.val = 0 := by rfl
theorem cn0 : cs0.next 3 0 false = (1, 0, cs1, 1, false) := by rfl
theorem cn1 : cs1.next 3 1 false = (2, 0, cs2, 2, false) := by rfl
theorem openR_ok {s : MemS} {mem : MemS → HProp} {cell : Nat → HProp} : openR (0, s) mem cell = fun v L => ∃ bc, v = .tuple #[.pointer (some ⟨bc, 0, none⟩), .int .i64 0] ∧ L = [cell bc, mem s] := by funext v L; exact if_pos rfl

theorem awake8_t  : Tri Try.prog 11 #[] [] (isR (.bool true) []) := by
  refine tri_of Try.call11 Try.func11 rfl fun B F => ?_
  refine gc_seq ?_
  refine gc_region ?_
  refine g_ev (e_as) ?_
  refine g_nil ?_
  refine gc_seq ?_
  refine gc_region ?_
  refine g_eff (s_call (new_t 10 (by omega)) .nil) ?_
  rintro _ _ ⟨_, ⟨b, rfl, rfl⟩, rfl⟩
  refine g_ev (e_mv) ?_
  refine g_ev (e_ex rfl) ?_
  refine g_ev (e_ex rfl) ?_
  refine g_ev (e_as) ?_
  refine g_ev (e_as) ?_
  refine g_nil ?_
  refine gc_seq ?_
  refine gc_region ?_
  refine g_ev (e_mv) ?_
  refine g_eff (s_call (R := fun v L => ∃ bc, v = .tuple #[.pointer (some ⟨bc, 0, none⟩), .int .i64 0] ∧ L = [cellB bc b 3 0 false, memP b cs0]) (by have := open_t b cs0 3 (by decide); rw [co0, openR_ok] at this; exact this) (.cons (by repeat ((conv => arg 2; whnf); first | with_reducible exact .here | ((with_reducible refine Del.hereC ?_); rfl) | ((with_reducible refine Del.hereS ?_ ?_ ?_) <;> rfl) | exact .here | apply Del.there)) .nil)) ?_
  rintro _ _ ⟨_, ⟨bc, rfl, rfl⟩, rfl⟩
  refine g_ev (e_mv) ?_
  refine g_ev (e_ex rfl) ?_
  refine g_ev (e_ex rfl) ?_
  refine g_ev (e_as) ?_
  refine g_ev (e_as) ?_
  refine g_nil ?_
  refine gc_seq ?_
  refine gc_seq ?_
  refine gc_region ?_
  refine g_ev (e_mv) ?_
  refine g_ev (e_ne rfl rfl) ?_
  refine g_ev (e_mv) ?_
  first | refine g_dec 19 rfl (fun c19 => ?_) (fun c19 => ?_) | refine g_ndec 19 rfl (fun c19 => ?_) (fun c19 => ?_) | refine g_bool 19 rfl (fun c19 => ?_) (fun c19 => ?_)
  · exact absurd rfl c19
  · skip
    refine g_ev (e_mv) ?_
    refine g_ev (e_eqp Try.underlying40 rfl rfl) ?_
    refine g_ev (e_pk rfl) ?_
    refine g_nil ?_
    refine gc_false ?_
    refine gc_skip ?_
    refine gc_seq ?_
    refine gc_region ?_
    refine g_ev (e_mv) ?_
    refine g_eff (s_call (R := isR (.tuple #[.int .u32 1, .int .i64 0]) [cellB bc b 3 1 false, memP b cs1]) (by have := next_t bc b cs0 3 0 false (by decide) (by decide) (by decide); rw [cn0] at this; exact this) (.cons (by repeat ((conv => arg 2; whnf); first | with_reducible exact .here | ((with_reducible refine Del.hereC ?_); rfl) | ((with_reducible refine Del.hereS ?_ ?_ ?_) <;> rfl) | exact .here | apply Del.there)) (.cons (by repeat ((conv => arg 2; whnf); first | with_reducible exact .here | ((with_reducible refine Del.hereC ?_); rfl) | ((with_reducible refine Del.hereS ?_ ?_ ?_) <;> rfl) | exact .here | apply Del.there)) .nil))) ?_
    rintro _ _ ⟨_, ⟨rfl, rfl⟩, rfl⟩
    refine g_ev (e_mv) ?_
    refine g_ev (e_ex rfl) ?_
    refine g_ev (e_ex rfl) ?_
    refine g_ev (e_as) ?_
    refine g_ev (e_as) ?_
    refine g_nil ?_
    refine gc_seq ?_
    refine gc_region ?_
    refine g_ev (e_mv) ?_
    refine g_eff (s_call (R := isR (.tuple #[.int .u32 2, .int .i64 0]) [cellB bc b 3 2 false, memP b cs2]) (by have := next_t bc b cs1 3 1 false (by decide) (by decide) (by decide); rw [cn1] at this; exact this) (.cons (by repeat ((conv => arg 2; whnf); first | with_reducible exact .here | ((with_reducible refine Del.hereC ?_); rfl) | ((with_reducible refine Del.hereS ?_ ?_ ?_) <;> rfl) | exact .here | apply Del.there)) (.cons (by repeat ((conv => arg 2; whnf); first | with_reducible exact .here | ((with_reducible refine Del.hereC ?_); rfl) | ((with_reducible refine Del.hereS ?_ ?_ ?_) <;> rfl) | exact .here | apply Del.there)) .nil))) ?_
    rintro _ _ ⟨_, ⟨rfl, rfl⟩, rfl⟩
    refine g_ev (e_mv) ?_
    refine g_ev (e_ex rfl) ?_
    refine g_ev (e_ex rfl) ?_
    refine g_ev (e_as) ?_
    refine g_ev (e_as) ?_
    refine g_nil ?_
    refine gc_seq ?_
    refine gc_region ?_
    refine g_ev (e_mv) ?_
    refine g_ev (e_eq rfl rfl) ?_
    refine g_ev (e_mv) ?_
    first | refine g_dec 35 rfl (fun c35 => ?_) (fun c35 => ?_) | refine g_ndec 35 rfl (fun c35 => ?_) (fun c35 => ?_) | refine g_bool 35 rfl (fun c35 => ?_) (fun c35 => ?_)
    · skip
      refine g_ev (e_mv) ?_
      refine g_ev (e_eq rfl rfl) ?_
      refine g_ev (e_pk rfl) ?_
      refine g_ev (e_mv) ?_
      first | refine g_dec 39 rfl (fun c39 => ?_) (fun c39 => ?_) | refine g_ndec 39 rfl (fun c39 => ?_) (fun c39 => ?_) | refine g_bool 39 rfl (fun c39 => ?_) (fun c39 => ?_)
      · skip
        refine g_ev (e_mv) ?_
        refine g_ev (e_eq rfl rfl) ?_
        refine g_ev (e_pk rfl) ?_
        refine g_ev (e_mv) ?_
        first | refine g_dec 43 rfl (fun c43 => ?_) (fun c43 => ?_) | refine g_ndec 43 rfl (fun c43 => ?_) (fun c43 => ?_) | refine g_bool 43 rfl (fun c43 => ?_) (fun c43 => ?_)
        · skip
          refine g_ev (e_mv) ?_
          refine g_ev (e_eq rfl rfl) ?_
          refine g_ev (e_pk rfl) ?_
          refine g_ev (e_mv) ?_
          first | refine g_dec 47 rfl (fun c47 => ?_) (fun c47 => ?_) | refine g_ndec 47 rfl (fun c47 => ?_) (fun c47 => ?_) | refine g_bool 47 rfl (fun c47 => ?_) (fun c47 => ?_)
          · skip
            refine g_ev (e_mv) ?_
            refine g_eff (s_call (value_t bc b 3 2 false) (.cons (by repeat ((conv => arg 2; whnf); first | with_reducible exact .here | ((with_reducible refine Del.hereC ?_); rfl) | ((with_reducible refine Del.hereS ?_ ?_ ?_) <;> rfl) | exact .here | apply Del.there)) (.nil))) ?_
            rintro _ _ ⟨_, ⟨rfl, rfl⟩, rfl⟩
            refine g_ev (e_eq rfl rfl) ?_
            refine g_ev (e_pk rfl) ?_
            refine g_ev (e_mv) ?_
            first | refine g_dec 52 rfl (fun c52 => ?_) (fun c52 => ?_) | refine g_ndec 52 rfl (fun c52 => ?_) (fun c52 => ?_) | refine g_bool 52 rfl (fun c52 => ?_) (fun c52 => ?_)
            · skip
              refine g_ev (e_mv) ?_
              refine g_eff (s_call (bytes_t b cs2 (by decide)) (.cons (by repeat ((conv => arg 2; whnf); first | with_reducible exact .here | ((with_reducible refine Del.hereC ?_); rfl) | ((with_reducible refine Del.hereS ?_ ?_ ?_) <;> rfl) | exact .here | apply Del.there)) .nil)) ?_
              rintro _ _ ⟨_, ⟨a2, c2, rfl, rfl, hn⟩, rfl⟩
              refine g_ev (e_b2s (bs := [165, 0, 0, 0, 1, 165, 0, 0, 0, 2]) Try.underlying22 Try.underlying5 Try.underlying9 rfl (fun B w h => h.rds .here)) ?_
              refine g_ev (e_eqs rfl rfl) ?_
              refine g_ev (e_pk rfl) ?_
              refine g_ev (e_as) ?_
              refine g_nil ?_
              refine gc_ret ?_
              exact ret1 (v := .bool true) (L1 := []) rfl (by (conv => lhs; whnf); exact congrArg Value.bool (by decide : _ = true)) ⟨rfl, rfl⟩ (fun _ h => h.fin (by repeat ((conv => arg 1; whnf); (conv => arg 2; whnf); first | with_reducible exact .done | exact Fin.all _ | refine .cons (by repeat ((conv => arg 2; whnf); first | with_reducible exact .here | ((with_reducible refine Del.hereC ?_); rfl) | ((with_reducible refine Del.hereS ?_ ?_ ?_) <;> rfl) | exact .here | apply Del.there)) ?_ | refine .drop ?_)))
            · exact absurd rfl c52
          · exact absurd rfl c47
        · exact absurd rfl c43
      · exact absurd rfl c39
    · exact absurd rfl c35


def openO (r : Int × MemS) (mem : MemS → HProp) (cell : Nat → HProp) (v : Value) (L : List HProp) : Prop := ∃ oc : Option Nat, v = .tuple #[.pointer (oc.map fun c => ⟨c, 0, none⟩), .int .i64 r.1] ∧ L = [optP oc cell, mem r.2] ∧ oc.isSome = decide (r.1 = 0)
theorem openR_O {r : Int × MemS} {mem : MemS → HProp} {cell : Nat → HProp} (v : Value) (M : List HProp) (h : openR r mem cell v M) : ∃ M', openO r mem cell v M' ∧ ∀ B w F, Sat B w (M ++ F) → Sat B w (M' ++ F) := by
  unfold openR at h
  by_cases e : r.1 = 0
  · rw [if_pos e] at h
    obtain ⟨bc, rfl, rfl⟩ := h
    exact ⟨_, ⟨some bc, by rw [e]; rfl, rfl, by simp [e]⟩, fun _ _ _ s => s⟩
  · rw [if_neg e] at h
    obtain ⟨rfl, rfl⟩ := h
    exact ⟨_, ⟨none, rfl, rfl, by simp [e]⟩, fun _ _ _ s => s.emp⟩
theorem open_o (b : Nat) (s : MemS) (mx : Nat) (hm : s.bs.length ≤ 4096) : Tri Try.prog 13 #[.pointer (some ⟨b, 0, none⟩), .int .u32 (mx : Int)] [memP b s] (openO (s.open mx) (memP b) (fun bc => cellB bc b mx s.val false)) := (open_t b s mx hm).imp openR_O
theorem ropen_o (b : Nat) (s : MemS) (mx : Nat) (hm : s.bs.length ≤ 4096) : Tri Try.prog 14 #[.pointer (some ⟨b, 0, none⟩), .int .u32 (mx : Int)] [refP b s] (openO (s.open mx) (refP b) (fun bc => rcellB bc b mx s.val false)) := (ropen_t b s mx hm).imp openR_O
theorem open_len (s : MemS) (mx : Nat) : (s.open mx).2.bs.length = s.bs.length := by
  unfold MemS.open
  split; · rfl
  split; · rfl
  exact wseq_len _ _
theorem open_ok {s : MemS} {mx : Nat} (h : (s.open mx).1 = 0) : 10 ≤ s.bs.length := by
  unfold MemS.open at h
  split at h
  · cases h
  · omega
theorem next_len (s : MemS) (mx v : Nat) (dead : Bool) : (s.next mx v dead).2.2.1.bs.length = s.bs.length := by
  unfold MemS.next
  split; · rfl
  split; · rfl
  split <;> exact wseq_len _ _
theorem arm_len (s : MemS) (n : Int) : (s.arm n).2.bs.length = s.bs.length := by
  unfold MemS.arm; split <;> rfl
def pairO : Option Nat → Option Nat → Option (Nat × Nat)
  | some a, some b => some (a, b)
  | _, _ => none
theorem pair1 {oc od : Option Nat} (h : oc.isSome = od.isSome) (A : Nat → HProp) (f) (hf : sepL [optP oc A] f) : optP (pairO oc od) (fun p => A p.1) f := by
  have := sepL_one hf
  cases oc <;> cases od <;> first | exact this | cases h
theorem pair2 {oc od : Option Nat} (h : oc.isSome = od.isSome) (A : Nat → HProp) (f) (hf : sepL [optP od A] f) : optP (pairO oc od) (fun p => A p.2) f := by
  have := sepL_one hf
  cases oc <;> cases od <;> first | exact this | cases h
theorem pairm1 {oc od : Option Nat} (h : oc.isSome = od.isSome) : (oc.map fun c => (⟨c, 0, none⟩ : Addr)) = (pairO oc od).map fun p => ⟨p.1, 0, none⟩ := by cases oc <;> cases od <;> first | rfl | cases h
theorem pairm2 {oc od : Option Nat} (h : oc.isSome = od.isSome) : (od.map fun c => (⟨c, 0, none⟩ : Addr)) = (pairO oc od).map fun p => ⟨p.2, 0, none⟩ := by cases oc <;> cases od <;> first | rfl | cases h
theorem pair_some {oc od : Option Nat} (h : (pairO oc od).isSome = true) : oc.isSome = true := by cases oc <;> cases od <;> first | rfl | cases h
def cO (o : Option (Nat × Nat)) (b mx v : Nat) (dead : Bool) : HProp := optP o fun p => cellB p.1 b mx v dead
def rO (o : Option (Nat × Nat)) (b mx v : Nat) (dead : Bool) : HProp := optP o fun p => rcellB p.2 b mx v dead
def RdOps (w : World) (sa : Option Addr) (n : Nat) (kd ar : Nat → Int) : Prop := (sa = none → n = 0) ∧ ∀ ad, sa = some ad → ∀ i, i < n → w.cell? ((ad.add (i * 2)).add 0) = some (.int .i64 (kd i)) ∧ w.cell? ((ad.add (i * 2)).add 1) = some (.int .i64 (ar i))

theorem plays_big {a sa : Option Addr} {c sc n mx : Nat} {bs : List UInt8} {kd ar : Nat → Int} {L0 : List HProp} (hr : ∀ B w, Sat B w L0 → Rds w 1 (.slice a bs.length c) bs.length (bv bs)) (hs : ∀ B w, Sat B w L0 → RdOps w sa n kd ar) (hm : bs.length ≤ 140737488351232) (hx : mx < 4294967296) (hlen : 4096 < bs.length) : Tri Try.prog 4 #[.slice a bs.length c, .int .u32 (mx : Int), .slice sa n sc] L0 (isR (.bool true) L0) := by
  refine tri_of Try.call4 Try.func4 rfl fun B F => ?_
  refine gc_seq ?_
  refine gc_region ?_
  refine g_ev (e_as) ?_
  refine g_nil ?_
  refine gc_seq ?_
  refine gc_seq ?_
  refine gc_region ?_
  refine g_eff (s_call (awake8_t ) .nil) ?_
  rintro _ _ ⟨_, ⟨rfl, rfl⟩, rfl⟩
  refine g_ev (e_not rfl) ?_
  refine g_nil ?_
  refine gc_false ?_
  refine gc_skip ?_
  refine gc_seq ?_
  refine gc_region ?_
  refine g_eff (s_bs0 Try.underlying22 Try.sizeOf5) ?_
  rintro _ _ ⟨b21, rfl, rfl⟩
  refine g_ev (e_mv) ?_
  refine g_eff (s_ap0 (bytes := 1) Try.underlying22 info5' rfl rfl rfl rfl (by decide) rfl rfl .here (fun B w h => by first | exact hr B w h.tail.left | exact hr B w h.tail.right.left) (bv_one _) (by omega) (by unfold maxLen; omega)) ?_
  rintro _ _ ⟨a2, c2, rfl, rfl, hnil⟩
  refine g_eff (s_call (load_t (L0 := [sown 5 1 (.slice a2 bs.length c2) bs.length (bv bs)]) (fun B w h => h.rds .here) (by omega)) (.cons .here .nil)) ?_
  rintro _ _ ⟨L2, hR, rfl⟩
  rw [if_pos hlen] at hR
  obtain ⟨rfl, rfl⟩ := hR
  refine g_ev (e_mv) ?_
  refine g_ev (e_ex rfl) ?_
  refine g_ev (e_ex rfl) ?_
  refine g_ev (e_as) ?_
  refine g_ev (e_as) ?_
  refine g_nil ?_
  refine gc_seq ?_
  refine gc_region ?_
  refine g_ev (e_mv) ?_
  refine g_eff (s_call (rload_t hr a2.isNone) (.skip (Pick.all _))) ?_
  rintro _ _ ⟨L2, hR, rfl⟩
  rw [if_pos hlen] at hR
  obtain ⟨rfl, hL⟩ := hR
  subst L2
  refine g_ev (e_mv) ?_
  refine g_ev (e_ex rfl) ?_
  refine g_ev (e_ex rfl) ?_
  refine g_ev (e_as) ?_
  refine g_ev (e_as) ?_
  refine g_nil ?_
  refine gc_seq ?_
  refine gc_seq ?_
  refine gc_region ?_
  refine g_ev (e_mv) ?_
  refine g_ev (e_mv) ?_
  refine g_ev (e_ne rfl rfl) ?_
  refine g_nil ?_
  first | refine gc_dec rfl (fun c34 => ?_) (fun c34 => ?_) | refine gc_ndec rfl (fun c34 => ?_) (fun c34 => ?_) | refine gc_cond rfl (fun c34 => ?_) (fun c34 => ?_)
  · exact absurd rfl c34
  · skip
    refine gc_skip ?_
    refine gc_seq ?_
    refine gc_seq ?_
    refine gc_region ?_
    refine g_ev (e_mv) ?_
    refine g_ev (e_eqp Try.underlying37 rfl rfl) ?_
    refine g_nil ?_
    refine gc_true ?_
    refine gc_seq ?_
    refine gc_region ?_
    refine g_ev (e_as) ?_
    refine g_nil ?_
    refine gc_ret ?_
    exact ret1 (L1 := L0) rfl (by (conv => lhs; whnf); try rfl) ⟨rfl, rfl⟩ (fun _ h => (h.perm List.perm_middle).tail)

set_option maxHeartbeats 4000000 in
set_option maxRecDepth 8000 in
theorem plays_small {a sa : Option Addr} {c sc n mx : Nat} {bs : List UInt8} {kd ar : Nat → Int} {L0 : List HProp} (hr : ∀ B w, Sat B w L0 → Rds w 1 (.slice a bs.length c) bs.length (bv bs)) (hs : ∀ B w, Sat B w L0 → RdOps w sa n kd ar) (hm : bs.length ≤ 140737488351232) (hx : mx < 4294967296) (hlen0 : ¬ 4096 < bs.length) : Tri Try.prog 4 #[.slice a bs.length c, .int .u32 (mx : Int), .slice sa n sc] L0 (isR (.bool true) L0) := by
  refine tri_of Try.call4 Try.func4 rfl fun B F => ?_
  refine gc_fact (φ := sa = none → n = 0) (fun w h => (hs _ w h.left).1) fun hsn => ?_
  refine gc_seq ?_
  refine gc_region ?_
  refine g_ev (e_as) ?_
  refine g_nil ?_
  refine gc_seq ?_
  refine gc_seq ?_
  refine gc_region ?_
  refine g_eff (s_call (awake8_t ) .nil) ?_
  rintro _ _ ⟨_, ⟨rfl, rfl⟩, rfl⟩
  refine g_ev (e_not rfl) ?_
  refine g_nil ?_
  refine gc_false ?_
  refine gc_skip ?_
  refine gc_seq ?_
  refine gc_region ?_
  refine g_eff (s_bs0 Try.underlying22 Try.sizeOf5) ?_
  rintro _ _ ⟨b21, rfl, rfl⟩
  refine g_ev (e_mv) ?_
  refine g_eff (s_ap0 (bytes := 1) Try.underlying22 info5' rfl rfl rfl rfl (by decide) rfl rfl .here (fun B w h => by first | exact hr B w h.tail.left | exact hr B w h.tail.right.left) (bv_one _) (by omega) (by unfold maxLen; omega)) ?_
  rintro _ _ ⟨a2, c2, rfl, rfl, hnil⟩
  refine g_eff (s_call (load_t (L0 := [sown 5 1 (.slice a2 bs.length c2) bs.length (bv bs)]) (fun B w h => h.rds .here) (by omega)) (.cons .here .nil)) ?_
  rintro _ _ ⟨L2, hR, rfl⟩
  rw [if_neg hlen0] at hR
  obtain ⟨bm, rfl, hL⟩ := hR
  subst L2
  refine g_ev (e_mv) ?_
  refine g_ev (e_ex rfl) ?_
  refine g_ev (e_ex rfl) ?_
  refine g_ev (e_as) ?_
  refine g_ev (e_as) ?_
  refine g_nil ?_
  refine gc_seq ?_
  refine gc_region ?_
  refine g_ev (e_mv) ?_
  refine g_eff (s_call (rload_t hr a2.isNone) (.skip (.skip (Pick.all _)))) ?_
  rintro _ _ ⟨L2, hR, rfl⟩
  rw [if_neg hlen0] at hR
  obtain ⟨br, rfl, hL⟩ := hR
  subst L2
  refine g_ev (e_mv) ?_
  refine g_ev (e_ex rfl) ?_
  refine g_ev (e_ex rfl) ?_
  refine g_ev (e_as) ?_
  refine g_ev (e_as) ?_
  refine g_imp (L' := memP bm (⟨bs, false, false, 0, 0, a2.isNone⟩ : MemS) :: refP br (⟨bs, false, false, 0, 0, a2.isNone⟩ : MemS) :: (L0 ++ F)) (fun w h => ((h.perm List.perm_middle).perm ((List.perm_middle.cons _).trans (List.Perm.swap _ _ _))).tail) ?_
  refine g_nil ?_
  refine gc_seq ?_
  refine gc_seq ?_
  refine gc_region ?_
  refine g_ev (e_mv) ?_
  refine g_ev (e_mv) ?_
  refine g_ev (e_ne rfl rfl) ?_
  refine g_nil ?_
  first | refine gc_dec rfl (fun c34 => ?_) (fun c34 => ?_) | refine gc_ndec rfl (fun c34 => ?_) (fun c34 => ?_) | refine gc_cond rfl (fun c34 => ?_) (fun c34 => ?_)
  · exact absurd rfl c34
  · skip
    refine gc_skip ?_
    refine gc_seq ?_
    refine gc_seq ?_
    refine gc_region ?_
    refine g_ev (e_mv) ?_
    refine g_ev (e_eqp Try.underlying37 rfl rfl) ?_
    refine g_nil ?_
    refine gc_false ?_
    refine gc_skip ?_
    refine gc_seq ?_
    refine gc_region ?_
    refine g_ev (e_mv) ?_
    refine g_ev (e_mv) ?_
    refine g_eff (s_call (open_o bm (⟨bs, false, false, 0, 0, a2.isNone⟩ : MemS) mx (by show bs.length ≤ 4096; omega)) (.cons (by repeat ((conv => arg 2; whnf); first | with_reducible exact .here | ((with_reducible refine Del.hereC ?_); rfl) | ((with_reducible refine Del.hereS ?_ ?_ ?_) <;> rfl) | exact .here | apply Del.there)) .nil)) ?_
    rintro _ _ ⟨_, ⟨oc, rfl, rfl, hoc⟩, rfl⟩
    refine g_ev (e_mv) ?_
    refine g_ev (e_ex rfl) ?_
    refine g_ev (e_ex rfl) ?_
    refine g_ev (e_as) ?_
    refine g_ev (e_as) ?_
    refine g_nil ?_
    refine gc_seq ?_
    refine gc_region ?_
    refine g_ev (e_mv) ?_
    refine g_ev (e_mv) ?_
    refine g_eff (s_call (ropen_o br (⟨bs, false, false, 0, 0, a2.isNone⟩ : MemS) mx (by show bs.length ≤ 4096; omega)) (.cons (by repeat ((conv => arg 2; whnf); first | with_reducible exact .here | ((with_reducible refine Del.hereC ?_); rfl) | ((with_reducible refine Del.hereS ?_ ?_ ?_) <;> rfl) | exact .here | apply Del.there)) .nil)) ?_
    rintro _ _ ⟨_, ⟨od, rfl, rfl, hod⟩, rfl⟩
    refine g_ev (e_mv) ?_
    refine g_ev (e_ex rfl) ?_
    refine g_ev (e_ex rfl) ?_
    refine g_ev (e_as) ?_
    refine g_ev (e_as) ?_
    have hcd : oc.isSome = od.isSome := hoc.trans hod.symm
    refine g_fin (L1 := [memP bm ((⟨bs, false, false, 0, 0, a2.isNone⟩ : MemS).open mx).2, refP br ((⟨bs, false, false, 0, 0, a2.isNone⟩ : MemS).open mx).2, cO (pairO oc od) bm mx (⟨bs, false, false, 0, 0, a2.isNone⟩ : MemS).val false, rO (pairO oc od) br mx (⟨bs, false, false, 0, 0, a2.isNone⟩ : MemS).val false]) (F := L0 ++ F) (.cons (by repeat ((conv => arg 2; whnf); first | with_reducible exact .here | ((with_reducible refine Del.hereC ?_); rfl) | ((with_reducible refine Del.hereS ?_ ?_ ?_) <;> rfl) | exact .here | apply Del.there)) (.cons (by repeat ((conv => arg 2; whnf); first | with_reducible exact .here | ((with_reducible refine Del.hereC ?_); rfl) | ((with_reducible refine Del.hereS ?_ ?_ ?_) <;> rfl) | exact .here | apply Del.there)) (.fold (M := [optP oc _]) (pair1 hcd _) (.cons (by repeat ((conv => arg 2; whnf); first | with_reducible exact .here | ((with_reducible refine Del.hereC ?_); rfl) | ((with_reducible refine Del.hereS ?_ ?_ ?_) <;> rfl) | exact .here | apply Del.there)) (.fold (M := [optP od _]) (pair2 hcd _) (.cons (by repeat ((conv => arg 2; whnf); first | with_reducible exact .here | ((with_reducible refine Del.hereC ?_); rfl) | ((with_reducible refine Del.hereS ?_ ?_ ?_) <;> rfl) | exact .here | apply Del.there)) (by repeat ((conv => arg 1; whnf); (conv => arg 2; whnf); first | with_reducible exact .done | exact Fin.all _ | refine .cons (by repeat ((conv => arg 2; whnf); first | with_reducible exact .here | ((with_reducible refine Del.hereC ?_); rfl) | ((with_reducible refine Del.hereS ?_ ?_ ?_) <;> rfl) | exact .here | apply Del.there)) ?_ | refine .drop ?_)))))))) ?_
    refine g_nil ?_
    refine gc_seq ?_
    refine gc_region ?_
    refine g_ev (e_as) ?_
    refine g_nil ?_
    refine gc_block ?_
    refine gc_loop (α := Nat × MemS × Option (Nat × Nat) × Nat × Bool × Int) (fun x E L => x.1 ≤ 200 ∧ x.2.1.bs.length = bs.length ∧ (x.2.2.1.isSome = true → 10 ≤ x.2.1.bs.length) ∧ E 1 = .int .u32 (mx : Int) ∧ E 2 = .slice sa n sc ∧ E 7 = .pointer (some ⟨bm, 0, none⟩) ∧ E 8 = .int .i64 x.2.2.2.2.2 ∧ E 9 = .pointer (some ⟨br, 0, none⟩) ∧ E 10 = .int .i64 x.2.2.2.2.2 ∧ E 11 = .pointer (x.2.2.1.map fun p => ⟨p.1, 0, none⟩) ∧ E 12 = .pointer (x.2.2.1.map fun p => ⟨p.2, 0, none⟩) ∧ E 13 = .int .i64 (x.1 : Int) ∧ L = memP bm x.2.1 :: refP br x.2.1 :: cO x.2.2.1 bm mx x.2.2.2.1 x.2.2.2.2.1 :: rO x.2.2.1 br mx x.2.2.2.1 x.2.2.2.2.1 :: (L0 ++ F)) (fun x => 200 - x.1) ((0, ((⟨bs, false, false, 0, 0, a2.isNone⟩ : MemS).open mx).2, pairO oc od, (⟨bs, false, false, 0, 0, a2.isNone⟩ : MemS).val, false, ((⟨bs, false, false, 0, 0, a2.isNone⟩ : MemS).open mx).1)) ?_ ?_
    · exact ⟨Nat.zero_le _, open_len (⟨bs, false, false, 0, 0, a2.isNone⟩ : MemS) mx, fun h => (by show 10 ≤ ((⟨bs, false, false, 0, 0, a2.isNone⟩ : MemS).open mx).2.bs.length; rw [open_len]; exact open_ok (of_decide_eq_true (hoc.symm.trans (pair_some h)))), rfl, rfl, rfl, rfl, rfl, rfl, congrArg Value.pointer (pairm1 hcd), congrArg Value.pointer (pairm2 hcd), rfl, rfl⟩
    · rintro ⟨i, st, o, v, dead, e⟩ E L ⟨hi, hlen, hok, h1, h2, h7, h8, h9, h10E, h11, h12, h13, rfl⟩
      replace hi : i ≤ 200 := hi
      replace hlen : st.bs.length = bs.length := hlen
      replace hok : o.isSome = true → 10 ≤ st.bs.length := hok
      replace h13 : E 13 = .int .i64 (i : Int) := h13
      replace h8 : E 8 = .int .i64 e := h8
      replace h10E : E 10 = .int .i64 e := h10E
      replace h11 : E 11 = .pointer (o.map fun p => ⟨p.1, 0, none⟩) := h11
      replace h12 : E 12 = .pointer (o.map fun p => ⟨p.2, 0, none⟩) := h12
      refine gc_slot 1 _ ?_ h1
      refine gc_slot 2 _ ?_ h2
      refine gc_slot 7 _ ?_ h7
      refine gc_slot 8 _ ?_ h8
      refine gc_slot 9 _ ?_ h9
      refine gc_slot 10 _ ?_ h10E
      refine gc_slot 11 _ ?_ h11
      refine gc_slot 12 _ ?_ h12
      refine gc_slot 13 _ ?_ h13
      rcases o with _ | ⟨bc, bd⟩
      · skip
        refine gc_seq ?_
        refine gc_block ?_
        refine gc_seq ?_
        refine gc_seq ?_
        refine gc_open (refM br st) (by repeat ((conv => arg 2; whnf); first | with_reducible exact .here | ((with_reducible refine Del.hereC ?_); rfl) | ((with_reducible refine Del.hereS ?_ ?_ ?_) <;> rfl) | exact .here | apply Del.there)) (fun _ h => h) (fun bsl => ?_)
        refine gc_draw (D := [memP bm st]) (fin := none) (plan := [(true, 0), (true, 1), (true, 2), (true, 3), (true, 4), (true, 5), (true, 6), (true, 7), (true, 8), (true, 9), (true, 10), (true, 11), (true, 14), (true, 15), (true, 16), (true, 17), (true, 18), (false, 12), (false, 13), (true, 19), (true, 20), (true, 21), (true, 22), (true, 24), (true, 25), (true, 26), (true, 27), (false, 23), (true, 28), (true, 29), (true, 30), (true, 31), (true, 33), (true, 34), (true, 35), (true, 36), (false, 32), (true, 37), (true, 38)]) rfl (by kernel_rfl) (by kernel_rfl) rfl (.cons (by repeat ((conv => arg 2; whnf); first | with_reducible exact .here | ((with_reducible refine Del.hereC ?_); rfl) | ((with_reducible refine Del.hereS ?_ ?_ ?_) <;> rfl) | exact .here | apply Del.there)) .nil) ?_
        refine gp_ev rfl (e_mv) ?_
        refine gp_ev rfl (e_mv) ?_
        refine gp_ev rfl ((e_ne rfl rfl).to (v' := .bool false) (congrArg Value.bool (by simp))) ?_
        refine gp_ev rfl (e_mv) ?_
        refine gp_ev rfl (e_mv) ?_
        refine gp_ev rfl (e_eqp (b := true) Try.underlying40 rfl rfl rfl) ?_
        refine gp_ev rfl (e_mv) ?_
        refine gp_ev rfl (e_eqp (b := true) Try.underlying43 rfl rfl rfl) ?_
        refine gp_ev rfl ((e_neb Try.underlying4 rfl rfl).to (v' := .bool false) (congrArg Value.bool (rfl))) ?_
        refine gp_ev rfl (e_pk rfl) ?_
        refine gp_ev rfl (e_mv) ?_
        refine gp_ev rfl (e_mv) ?_
        refine gp_ev rfl (e_mv) ?_
        refine gp_ev rfl (e_nc rfl) ?_
        refine gp_ev rfl (e_fa Try.underlying47 rfl rfl Try.sizeOf22) ?_
        refine gp_ev rfl (e_ld Try.underlying22 rfl (by repeat ((conv => arg 2; whnf); first | with_reducible exact .here | ((with_reducible refine Del.hereC ?_); rfl) | ((with_reducible refine Del.hereS ?_ ?_ ?_) <;> rfl) | exact .here | apply Del.there)) rfl) ?_
        refine gp_ev rfl (e_b2s (bs := st.bs) Try.underlying22 Try.underlying5 Try.underlying9 rfl (fun B w h => h.rds (by repeat ((conv => arg 2; whnf); first | with_reducible exact .here | ((with_reducible refine Del.hereC ?_); rfl) | ((with_reducible refine Del.hereS ?_ ?_ ?_) <;> rfl) | exact .here | apply Del.there)))) ?_
        refine gp_eff rfl (s_call (bytes_t bm st (by omega)) (.cons (by repeat ((conv => arg 2; whnf); first | with_reducible exact .here | ((with_reducible refine Del.hereC ?_); rfl) | ((with_reducible refine Del.hereS ?_ ?_ ?_) <;> rfl) | exact .here | apply Del.there)) .nil)) ?_
        rintro _ _ ⟨_, ⟨a3, c3, rfl, rfl, hn3⟩, rfl⟩
        refine gp_evf rfl (e_b2s (bs := st.bs) Try.underlying22 Try.underlying5 Try.underlying9 rfl (fun B w h => h.rds .here)) ?_
        refine gp_ev rfl ((e_nes rfl rfl).to (v' := .bool false) (congrArg Value.bool (by simp))) ?_
        refine gp_ev rfl (e_pk rfl) ?_
        refine gp_ev rfl (e_mv) ?_
        refine gp_ev rfl (e_mv) ?_
        refine gp_ev rfl (e_mv) ?_
        refine gp_ev rfl (e_nc rfl) ?_
        refine gp_ev rfl (e_fa Try.underlying47 rfl rfl Try.sizeOf3) ?_
        refine gp_ev rfl (e_ld Try.underlying3 rfl (by repeat ((conv => arg 2; whnf); first | with_reducible exact .here | ((with_reducible refine Del.hereC ?_); rfl) | ((with_reducible refine Del.hereS ?_ ?_ ?_) <;> rfl) | exact .here | apply Del.there)) rfl) ?_
        refine gp_eff rfl (s_call (writes_t bm st) (.cons (by repeat ((conv => arg 2; whnf); first | with_reducible exact .here | ((with_reducible refine Del.hereC ?_); rfl) | ((with_reducible refine Del.hereS ?_ ?_ ?_) <;> rfl) | exact .here | apply Del.there)) (.nil))) ?_
        rintro _ _ ⟨_, ⟨rfl, rfl⟩, rfl⟩
        refine gp_ev rfl ((e_ne rfl rfl).to (v' := .bool false) (congrArg Value.bool (by simp))) ?_
        refine gp_ev rfl (e_pk rfl) ?_
        refine gp_ev rfl (e_mv) ?_
        refine gp_ev rfl (e_mv) ?_
        refine gp_ev rfl (e_mv) ?_
        refine gp_ev rfl (e_nc rfl) ?_
        refine gp_ev rfl (e_fa Try.underlying47 rfl rfl Try.sizeOf4) ?_
        refine gp_ev rfl (e_ld Try.underlying4 rfl (by repeat ((conv => arg 2; whnf); first | with_reducible exact .here | ((with_reducible refine Del.hereC ?_); rfl) | ((with_reducible refine Del.hereS ?_ ?_ ?_) <;> rfl) | exact .here | apply Del.there)) rfl) ?_
        refine gp_eff rfl (s_call (off_t bm st) (.cons (by repeat ((conv => arg 2; whnf); first | with_reducible exact .here | ((with_reducible refine Del.hereC ?_); rfl) | ((with_reducible refine Del.hereS ?_ ?_ ?_) <;> rfl) | exact .here | apply Del.there)) (.nil))) ?_
        rintro _ _ ⟨_, ⟨rfl, rfl⟩, rfl⟩
        refine gp_ev rfl ((e_neb Try.underlying4 rfl rfl).to (v' := .bool false) (congrArg Value.bool (by simp))) ?_
        refine gp_ev rfl (e_pk rfl) ?_
        refine gp_nil ?_
        refine gc_false ?_
        refine gc_skip ?_
        refine gc_seq ?_
        refine gc_seq ?_
        refine gc_fin (L1 := [memP bm st, refP br st, cO (none : Option (Nat × Nat)) bm mx v dead, rO (none : Option (Nat × Nat)) br mx v dead]) (F := L0 ++ F) (.cons (by repeat ((conv => arg 2; whnf); first | with_reducible exact .here | ((with_reducible refine Del.hereC ?_); rfl) | ((with_reducible refine Del.hereS ?_ ?_ ?_) <;> rfl) | exact .here | apply Del.there)) (.fold (M := refM br st _) (fun _ h => ⟨_, h⟩) (.cons (by repeat ((conv => arg 2; whnf); first | with_reducible exact .here | ((with_reducible refine Del.hereC ?_); rfl) | ((with_reducible refine Del.hereS ?_ ?_ ?_) <;> rfl) | exact .here | apply Del.there)) (.cons (by repeat ((conv => arg 2; whnf); first | with_reducible exact .here | ((with_reducible refine Del.hereC ?_); rfl) | ((with_reducible refine Del.hereS ?_ ?_ ?_) <;> rfl) | exact .here | apply Del.there)) (.cons (by repeat ((conv => arg 2; whnf); first | with_reducible exact .here | ((with_reducible refine Del.hereC ?_); rfl) | ((with_reducible refine Del.hereS ?_ ?_ ?_) <;> rfl) | exact .here | apply Del.there)) (.cons (by repeat ((conv => arg 2; whnf); first | with_reducible exact .here | ((with_reducible refine Del.hereC ?_); rfl) | ((with_reducible refine Del.hereS ?_ ?_ ?_) <;> rfl) | exact .here | apply Del.there)) (by repeat ((conv => arg 1; whnf); (conv => arg 2; whnf); first | with_reducible exact .done | exact Fin.all _ | refine .cons (by repeat ((conv => arg 2; whnf); first | with_reducible exact .here | ((with_reducible refine Del.hereC ?_); rfl) | ((with_reducible refine Del.hereS ?_ ?_ ?_) <;> rfl) | exact .here | apply Del.there)) ?_ | refine .drop ?_)))))))) ?_
        refine gc_draw (D := []) (fin := none) (plan := [(true, 0), (true, 1), (true, 2), (true, 3), (true, 5), (true, 6), (true, 7), (true, 8), (false, 4), (true, 9), (true, 10)]) rfl (by kernel_rfl) (by kernel_rfl) rfl .nil ?_
        refine gp_ev rfl (e_mv) ?_
        refine gp_ev rfl (e_nep (b := false) Try.underlying43 rfl rfl rfl) ?_
        refine gp_ev rfl (e_mv) ?_
        refine gp_not rfl ?_
        refine gp_not rfl ?_
        refine gp_not rfl ?_
        refine gp_not rfl ?_
        refine gp_not rfl ?_
        refine gp_notf rfl ?_
        refine gp_not rfl ?_
        refine gp_ev rfl (e_pk rfl) ?_
        refine gp_nil ?_
        refine gc_false ?_
        refine gc_skip ?_
        refine gc_seq ?_
        refine gc_seq ?_
        refine gc_region ?_
        refine g_ev (e_mv) ?_
        refine g_ev (e_mv) ?_
        refine g_ev (e_len Try.underlying36 rfl) ?_
        refine g_ev (e_ge rfl rfl) ?_
        refine g_ev (e_mv) ?_
        first | refine g_dec 105 rfl (fun c105 => ?_) (fun c105 => ?_) | refine g_ndec 105 rfl (fun c105 => ?_) (fun c105 => ?_) | refine g_bool 105 rfl (fun c105 => ?_) (fun c105 => ?_)
        · skip
          refine g_not ?_
          refine g_not ?_
          refine g_ev (e_pk rfl) ?_
          refine g_nil ?_
          refine gc_true ?_
          refine gc_seq ?_
          refine gc_region ?_
          refine g_ev (e_as) ?_
          refine g_nil ?_
          refine gc_ret ?_
          exact ret1 (L1 := L0) rfl (by (conv => lhs; whnf); try rfl) ⟨rfl, rfl⟩ (fun _ h => h.fin (by repeat ((conv => arg 2; whnf); first | with_reducible refine Vc.Fin.drop ?_ | exact Vc.Fin.all _)))
        · skip
          refine g_ev (e_mv) ?_
          refine g_ev (e_ge rfl rfl) ?_
          refine g_ev (e_pk rfl) ?_
          refine g_nil ?_
          first | refine gc_dec rfl (fun c108 => ?_) (fun c108 => ?_) | refine gc_ndec rfl (fun c108 => ?_) (fun c108 => ?_) | refine gc_cond rfl (fun c108 => ?_) (fun c108 => ?_)
          · skip
            refine gc_seq ?_
            refine gc_region ?_
            refine g_ev (e_as) ?_
            refine g_nil ?_
            refine gc_ret ?_
            exact ret1 (L1 := L0) rfl (by (conv => lhs; whnf); try rfl) ⟨rfl, rfl⟩ (fun _ h => h.fin (by repeat ((conv => arg 2; whnf); first | with_reducible refine Vc.Fin.drop ?_ | exact Vc.Fin.all _)))
          · skip
            refine gc_skip ?_
            refine gc_seq ?_
            refine gc_region ?_
            refine g_ev (e_mv) ?_
            refine g_ev (e_mv) ?_
            obtain ⟨ad, rfl⟩ : ∃ ad, sa = some ad := by
              cases sa with
              | none => have := hsn rfl; omega
              | some ad => exact ⟨ad, rfl⟩
            refine g_ev (e_iaA (q := i) Try.underlying36 Try.sizeOf53 rfl rfl rfl (by omega)) ?_
            refine g_ev (e_faA Try.underlying53 rfl rfl Try.sizeOf3) ?_
            refine g_ev (e_ldc (v := .int .i64 (kd i)) Try.underlying3 rfl (fun B w h => ((hs _ w (h.fin (L1 := L0) (F := F) (by repeat ((conv => arg 2; whnf); first | with_reducible refine Vc.Fin.drop ?_ | exact Vc.Fin.all _))).left).2 ad rfl i (by omega)).1)) ?_
            refine g_nil ?_
            refine gc_block ?_
            refine gc_seq ?_
            refine gc_region ?_
            refine g_ev (e_eq rfl rfl) ?_
            refine g_ev (e_as) ?_
            refine g_nil ?_
            first | refine gc_dec rfl (fun c114 => ?_) (fun c114 => ?_) | refine gc_ndec rfl (fun c114 => ?_) (fun c114 => ?_) | refine gc_cond rfl (fun c114 => ?_) (fun c114 => ?_)
            · skip
              refine gc_seq ?_
              refine gc_region ?_
              refine g_ev (e_mv) ?_
              refine g_ev (e_mv) ?_
              refine g_eff (s_call (open_o bm st mx (by omega)) (.cons (by repeat ((conv => arg 2; whnf); first | with_reducible exact .here | ((with_reducible refine Del.hereC ?_); rfl) | ((with_reducible refine Del.hereS ?_ ?_ ?_) <;> rfl) | exact .here | apply Del.there)) .nil)) ?_
              rintro _ _ ⟨_, ⟨oc, rfl, rfl, hoc⟩, rfl⟩
              refine g_ev (e_mv) ?_
              refine g_ev (e_ex rfl) ?_
              refine g_ev (e_ex rfl) ?_
              refine g_ev (e_as) ?_
              refine g_ev (e_as) ?_
              refine g_nil ?_
              refine gc_region ?_
              refine g_ev (e_mv) ?_
              refine g_ev (e_mv) ?_
              refine g_eff (s_call (ropen_o br st mx (by omega)) (.cons (by repeat ((conv => arg 2; whnf); first | with_reducible exact .here | ((with_reducible refine Del.hereC ?_); rfl) | ((with_reducible refine Del.hereS ?_ ?_ ?_) <;> rfl) | exact .here | apply Del.there)) .nil)) ?_
              rintro _ _ ⟨_, ⟨od, rfl, rfl, hod⟩, rfl⟩
              refine g_ev (e_mv) ?_
              refine g_ev (e_ex rfl) ?_
              refine g_ev (e_ex rfl) ?_
              refine g_ev (e_as) ?_
              refine g_ev (e_as) ?_
              have hcd : oc.isSome = od.isSome := hoc.trans hod.symm
              refine g_fin (L1 := [memP bm (st.open mx).2, refP br (st.open mx).2, cO (pairO oc od) bm mx st.val false, rO (pairO oc od) br mx st.val false]) (F := L0 ++ F) (.cons (by repeat ((conv => arg 2; whnf); first | with_reducible exact .here | ((with_reducible refine Del.hereC ?_); rfl) | ((with_reducible refine Del.hereS ?_ ?_ ?_) <;> rfl) | exact .here | apply Del.there)) (.cons (by repeat ((conv => arg 2; whnf); first | with_reducible exact .here | ((with_reducible refine Del.hereC ?_); rfl) | ((with_reducible refine Del.hereS ?_ ?_ ?_) <;> rfl) | exact .here | apply Del.there)) (.fold (M := [optP oc _]) (pair1 hcd _) (.cons (by repeat ((conv => arg 2; whnf); first | with_reducible exact .here | ((with_reducible refine Del.hereC ?_); rfl) | ((with_reducible refine Del.hereS ?_ ?_ ?_) <;> rfl) | exact .here | apply Del.there)) (.fold (M := [optP od _]) (pair2 hcd _) (.cons (by repeat ((conv => arg 2; whnf); first | with_reducible exact .here | ((with_reducible refine Del.hereC ?_); rfl) | ((with_reducible refine Del.hereS ?_ ?_ ?_) <;> rfl) | exact .here | apply Del.there)) (by repeat ((conv => arg 1; whnf); (conv => arg 2; whnf); first | with_reducible exact .done | exact Fin.all _ | refine .cons (by repeat ((conv => arg 2; whnf); first | with_reducible exact .here | ((with_reducible refine Del.hereC ?_); rfl) | ((with_reducible refine Del.hereS ?_ ?_ ?_) <;> rfl) | exact .here | apply Del.there)) ?_ | refine .drop ?_)))))))) ?_
              refine g_nil ?_
              refine gc_region ?_
              refine g_ev (e_mv) ?_
              refine g_ev ((e_addw rfl rfl).to (v' := .int .i64 ((i + 1 : Nat) : Int)) (congrArg _ (wrapN (by omega) (by omega)))) ?_
              refine g_ev (e_as) ?_
              refine g_nil ?_
              refine Exists.intro (i + 1, (st.open mx).2, (pairO oc od), st.val, false, (st.open mx).1) (And.intro ⟨by show i + 1 ≤ 200; omega, (open_len st mx).trans hlen, fun h => (by rw [open_len]; exact open_ok (of_decide_eq_true (hoc.symm.trans (pair_some h)))), (by (conv => lhs; whnf); try rfl), (by (conv => lhs; whnf); try rfl), (by (conv => lhs; whnf); try rfl), (by (conv => lhs; whnf); try rfl), (by (conv => lhs; whnf); try rfl), (by (conv => lhs; whnf); try rfl), (by (conv => lhs; whnf); exact (congrArg Value.pointer (pairm1 hcd))), (by (conv => lhs; whnf); exact (congrArg Value.pointer (pairm2 hcd))), (by (conv => lhs; whnf); try rfl), ?_⟩ (by show 200 - (i + 1) < 200 - i; omega))
              exact rfl
            · skip
              refine gc_seq ?_
              refine gc_region ?_
              refine g_ev (e_eq rfl rfl) ?_
              refine g_ev (e_as) ?_
              refine g_nil ?_
              first | refine gc_dec rfl (fun c128 => ?_) (fun c128 => ?_) | refine gc_ndec rfl (fun c128 => ?_) (fun c128 => ?_) | refine gc_cond rfl (fun c128 => ?_) (fun c128 => ?_)
              · skip
                refine gc_seq ?_
                refine gc_region ?_
                refine g_ev (e_mv) ?_
                refine g_ev (e_nep (b := false) Try.underlying43 rfl rfl rfl) ?_
                refine g_nil ?_
                refine gc_false ?_
                refine gc_skip ?_
                refine gc_region ?_
                refine g_ev (e_mv) ?_
                refine g_ev ((e_addw rfl rfl).to (v' := .int .i64 ((i + 1 : Nat) : Int)) (congrArg _ (wrapN (by omega) (by omega)))) ?_
                refine g_ev (e_as) ?_
                refine g_nil ?_
                refine Exists.intro (i + 1, st, (none : Option (Nat × Nat)), v, dead, e) (And.intro ⟨by show i + 1 ≤ 200; omega, hlen, fun h => (by cases h), (by (conv => lhs; whnf); try rfl), (by (conv => lhs; whnf); try rfl), (by (conv => lhs; whnf); try rfl), (by (conv => lhs; whnf); try rfl), (by (conv => lhs; whnf); try rfl), (by (conv => lhs; whnf); try rfl), (by (conv => lhs; whnf); try rfl), (by (conv => lhs; whnf); try rfl), (by (conv => lhs; whnf); try rfl), ?_⟩ (by show 200 - (i + 1) < 200 - i; omega))
                exact rfl
              · skip
                refine gc_seq ?_
                refine gc_region ?_
                refine g_ev (e_eq rfl rfl) ?_
                refine g_ev (e_as) ?_
                refine g_nil ?_
                first | refine gc_dec rfl (fun c150 => ?_) (fun c150 => ?_) | refine gc_ndec rfl (fun c150 => ?_) (fun c150 => ?_) | refine gc_cond rfl (fun c150 => ?_) (fun c150 => ?_)
                · skip
                  refine gc_draw (D := [memP bm st, refP br st]) (fin := none) (plan := [(true, 0), (true, 1), (true, 2), (true, 3), (true, 4), (true, 5), (true, 7), (true, 8), (true, 9), (true, 10), (true, 11), (true, 12), (false, 6), (false, 13), (true, 14), (true, 15)]) rfl (by kernel_rfl) (by kernel_rfl) rfl (.cons (by repeat ((conv => arg 2; whnf); first | with_reducible exact .here | ((with_reducible refine Del.hereC ?_); rfl) | ((with_reducible refine Del.hereS ?_ ?_ ?_) <;> rfl) | exact .here | apply Del.there)) (.cons (by repeat ((conv => arg 2; whnf); first | with_reducible exact .here | ((with_reducible refine Del.hereC ?_); rfl) | ((with_reducible refine Del.hereS ?_ ?_ ?_) <;> rfl) | exact .here | apply Del.there)) .nil)) ?_
                  refine gp_ev rfl (e_mv) ?_
                  refine gp_ev rfl (e_mv) ?_
                  refine gp_ev rfl (e_mv) ?_
                  refine gp_ev rfl (e_iaA (q := i) Try.underlying36 Try.sizeOf53 rfl rfl rfl (by omega)) ?_
                  refine gp_ev rfl (e_faA Try.underlying53 rfl rfl Try.sizeOf3) ?_
                  refine gp_ev rfl (e_ldc (v := .int .i64 (ar i)) Try.underlying3 rfl (fun B w h => ((hs _ w (h.fin (L1 := L0) (F := F) (by repeat ((conv => arg 2; whnf); first | with_reducible refine Vc.Fin.drop ?_ | exact Vc.Fin.all _))).left).2 ad rfl i (by omega)).2)) ?_
                  refine gp_ev rfl (e_mv) ?_
                  refine gp_ev rfl (e_mv) ?_
                  refine gp_ev rfl (e_mv) ?_
                  refine gp_ev rfl (e_iaA (q := i) Try.underlying36 Try.sizeOf53 rfl rfl rfl (by omega)) ?_
                  refine gp_ev rfl (e_faA Try.underlying53 rfl rfl Try.sizeOf3) ?_
                  refine gp_ev rfl (e_ldc (v := .int .i64 (ar i)) Try.underlying3 rfl (fun B w h => ((hs _ w (h.fin (L1 := L0) (F := F) (by repeat ((conv => arg 2; whnf); first | with_reducible refine Vc.Fin.drop ?_ | exact Vc.Fin.all _))).left).2 ad rfl i (by omega)).2)) ?_
                  refine gp_eff rfl (s_call (arm_t bm st (ar i)) (.cons (by repeat ((conv => arg 2; whnf); first | with_reducible exact .here | ((with_reducible refine Del.hereC ?_); rfl) | ((with_reducible refine Del.hereS ?_ ?_ ?_) <;> rfl) | exact .here | apply Del.there)) (.nil))) ?_
                  rintro _ _ ⟨_, ⟨rfl, rfl⟩, rfl⟩
                  refine gp_eff rfl (s_call (rarm_t br st (ar i)) (.cons (by repeat ((conv => arg 2; whnf); first | with_reducible exact .here | ((with_reducible refine Del.hereC ?_); rfl) | ((with_reducible refine Del.hereS ?_ ?_ ?_) <;> rfl) | exact .here | apply Del.there)) (.nil))) ?_
                  rintro _ _ ⟨_, ⟨rfl, rfl⟩, rfl⟩
                  refine gp_ev rfl (e_as) ?_
                  refine gp_ev rfl (e_as) ?_
                  refine gp_nil ?_
                  refine gc_region ?_
                  refine g_fin (L1 := [memP bm ((st.arm (ar i)).2), refP br ((st.arm (ar i)).2), cO (none : Option (Nat × Nat)) bm mx (v) (dead), rO (none : Option (Nat × Nat)) br mx (v) (dead)]) (F := L0 ++ F) (.cons (by repeat ((conv => arg 2; whnf); first | with_reducible exact .here | ((with_reducible refine Del.hereC ?_); rfl) | ((with_reducible refine Del.hereS ?_ ?_ ?_) <;> rfl) | exact .here | apply Del.there)) (.cons (by repeat ((conv => arg 2; whnf); first | with_reducible exact .here | ((with_reducible refine Del.hereC ?_); rfl) | ((with_reducible refine Del.hereS ?_ ?_ ?_) <;> rfl) | exact .here | apply Del.there)) (.cons (by repeat ((conv => arg 2; whnf); first | with_reducible exact .here | ((with_reducible refine Del.hereC ?_); rfl) | ((with_reducible refine Del.hereS ?_ ?_ ?_) <;> rfl) | exact .here | apply Del.there)) (.cons (by repeat ((conv => arg 2; whnf); first | with_reducible exact .here | ((with_reducible refine Del.hereC ?_); rfl) | ((with_reducible refine Del.hereS ?_ ?_ ?_) <;> rfl) | exact .here | apply Del.there)) (by repeat ((conv => arg 1; whnf); (conv => arg 2; whnf); first | with_reducible exact .done | exact Fin.all _ | refine .cons (by repeat ((conv => arg 2; whnf); first | with_reducible exact .here | ((with_reducible refine Del.hereC ?_); rfl) | ((with_reducible refine Del.hereS ?_ ?_ ?_) <;> rfl) | exact .here | apply Del.there)) ?_ | refine .drop ?_)))))) ?_
                  refine g_ev (e_mv) ?_
                  refine g_ev ((e_addw rfl rfl).to (v' := .int .i64 ((i + 1 : Nat) : Int)) (congrArg _ (wrapN (by omega) (by omega)))) ?_
                  refine g_ev (e_as) ?_
                  refine g_nil ?_
                  refine Exists.intro (i + 1, (st.arm (ar i)).2, (none : Option (Nat × Nat)), v, dead, (st.arm (ar i)).1) (And.intro ⟨by show i + 1 ≤ 200; omega, (arm_len st _).trans hlen, fun h => (by cases h), (by (conv => lhs; whnf); try rfl), (by (conv => lhs; whnf); try rfl), (by (conv => lhs; whnf); try rfl), (by (conv => lhs; whnf); try rfl), (by (conv => lhs; whnf); try rfl), (by (conv => lhs; whnf); try rfl), (by (conv => lhs; whnf); try rfl), (by (conv => lhs; whnf); try rfl), (by (conv => lhs; whnf); try rfl), ?_⟩ (by show 200 - (i + 1) < 200 - i; omega))
                  exact rfl
                · skip
                  refine gc_seq ?_
                  refine gc_region ?_
                  refine g_ev (e_eq rfl rfl) ?_
                  refine g_ev (e_as) ?_
                  refine g_nil ?_
                  first | refine gc_dec rfl (fun c166 => ?_) (fun c166 => ?_) | refine gc_ndec rfl (fun c166 => ?_) (fun c166 => ?_) | refine gc_cond rfl (fun c166 => ?_) (fun c166 => ?_)
                  · skip
                    refine gc_seq ?_
                    refine gc_region ?_
                    refine g_ev (e_mv) ?_
                    refine g_eff (s_call (on_t bm st) (.cons (by repeat ((conv => arg 2; whnf); first | with_reducible exact .here | ((with_reducible refine Del.hereC ?_); rfl) | ((with_reducible refine Del.hereS ?_ ?_ ?_) <;> rfl) | exact .here | apply Del.there)) (.nil))) ?_
                    rintro _ _ ⟨_, ⟨rfl, rfl⟩, rfl⟩
                    refine g_nil ?_
                    refine gc_region ?_
                    refine g_ev (e_mv) ?_
                    refine g_eff (s_call (ron_t br st) (.cons (by repeat ((conv => arg 2; whnf); first | with_reducible exact .here | ((with_reducible refine Del.hereC ?_); rfl) | ((with_reducible refine Del.hereS ?_ ?_ ?_) <;> rfl) | exact .here | apply Del.there)) (.nil))) ?_
                    rintro _ _ ⟨_, ⟨rfl, rfl⟩, rfl⟩
                    refine g_nil ?_
                    refine gc_region ?_
                    refine g_fin (L1 := [memP bm (st.on), refP br (st.on), cO (none : Option (Nat × Nat)) bm mx (v) (dead), rO (none : Option (Nat × Nat)) br mx (v) (dead)]) (F := L0 ++ F) (.cons (by repeat ((conv => arg 2; whnf); first | with_reducible exact .here | ((with_reducible refine Del.hereC ?_); rfl) | ((with_reducible refine Del.hereS ?_ ?_ ?_) <;> rfl) | exact .here | apply Del.there)) (.cons (by repeat ((conv => arg 2; whnf); first | with_reducible exact .here | ((with_reducible refine Del.hereC ?_); rfl) | ((with_reducible refine Del.hereS ?_ ?_ ?_) <;> rfl) | exact .here | apply Del.there)) (.cons (by repeat ((conv => arg 2; whnf); first | with_reducible exact .here | ((with_reducible refine Del.hereC ?_); rfl) | ((with_reducible refine Del.hereS ?_ ?_ ?_) <;> rfl) | exact .here | apply Del.there)) (.cons (by repeat ((conv => arg 2; whnf); first | with_reducible exact .here | ((with_reducible refine Del.hereC ?_); rfl) | ((with_reducible refine Del.hereS ?_ ?_ ?_) <;> rfl) | exact .here | apply Del.there)) (by repeat ((conv => arg 1; whnf); (conv => arg 2; whnf); first | with_reducible exact .done | exact Fin.all _ | refine .cons (by repeat ((conv => arg 2; whnf); first | with_reducible exact .here | ((with_reducible refine Del.hereC ?_); rfl) | ((with_reducible refine Del.hereS ?_ ?_ ?_) <;> rfl) | exact .here | apply Del.there)) ?_ | refine .drop ?_)))))) ?_
                    refine g_ev (e_mv) ?_
                    refine g_ev ((e_addw rfl rfl).to (v' := .int .i64 ((i + 1 : Nat) : Int)) (congrArg _ (wrapN (by omega) (by omega)))) ?_
                    refine g_ev (e_as) ?_
                    refine g_nil ?_
                    refine Exists.intro (i + 1, st.on, (none : Option (Nat × Nat)), v, dead, e) (And.intro ⟨by show i + 1 ≤ 200; omega, hlen, fun h => (by cases h), (by (conv => lhs; whnf); try rfl), (by (conv => lhs; whnf); try rfl), (by (conv => lhs; whnf); try rfl), (by (conv => lhs; whnf); try rfl), (by (conv => lhs; whnf); try rfl), (by (conv => lhs; whnf); try rfl), (by (conv => lhs; whnf); try rfl), (by (conv => lhs; whnf); try rfl), (by (conv => lhs; whnf); try rfl), ?_⟩ (by show 200 - (i + 1) < 200 - i; omega))
                    exact rfl
                  · skip
                    refine gc_skip ?_
                    refine gc_region ?_
                    refine g_ev (e_mv) ?_
                    refine g_ev ((e_addw rfl rfl).to (v' := .int .i64 ((i + 1 : Nat) : Int)) (congrArg _ (wrapN (by omega) (by omega)))) ?_
                    refine g_ev (e_as) ?_
                    refine g_nil ?_
                    refine Exists.intro (i + 1, st, (none : Option (Nat × Nat)), v, dead, e) (And.intro ⟨by show i + 1 ≤ 200; omega, hlen, fun h => (by cases h), (by (conv => lhs; whnf); try rfl), (by (conv => lhs; whnf); try rfl), (by (conv => lhs; whnf); try rfl), (by (conv => lhs; whnf); try rfl), (by (conv => lhs; whnf); try rfl), (by (conv => lhs; whnf); try rfl), (by (conv => lhs; whnf); try rfl), (by (conv => lhs; whnf); try rfl), (by (conv => lhs; whnf); try rfl), ?_⟩ (by show 200 - (i + 1) < 200 - i; omega))
                    exact rfl
      · have h10 : 10 ≤ st.bs.length := hok rfl
        refine gc_seq ?_
        refine gc_block ?_
        refine gc_seq ?_
        refine gc_seq ?_
        refine gc_open (refM br st) (by repeat ((conv => arg 2; whnf); first | with_reducible exact .here | ((with_reducible refine Del.hereC ?_); rfl) | ((with_reducible refine Del.hereS ?_ ?_ ?_) <;> rfl) | exact .here | apply Del.there)) (fun _ h => h) (fun bsl => ?_)
        refine gc_draw (D := [memP bm st]) (fin := none) (plan := [(true, 0), (true, 1), (true, 2), (true, 3), (true, 4), (true, 5), (true, 6), (true, 7), (true, 8), (true, 9), (true, 10), (true, 11), (true, 14), (true, 15), (true, 16), (true, 17), (true, 18), (false, 12), (false, 13), (true, 19), (true, 20), (true, 21), (true, 22), (true, 24), (true, 25), (true, 26), (true, 27), (false, 23), (true, 28), (true, 29), (true, 30), (true, 31), (true, 33), (true, 34), (true, 35), (true, 36), (false, 32), (true, 37), (true, 38)]) rfl (by kernel_rfl) (by kernel_rfl) rfl (.cons (by repeat ((conv => arg 2; whnf); first | with_reducible exact .here | ((with_reducible refine Del.hereC ?_); rfl) | ((with_reducible refine Del.hereS ?_ ?_ ?_) <;> rfl) | exact .here | apply Del.there)) .nil) ?_
        refine gp_ev rfl (e_mv) ?_
        refine gp_ev rfl (e_mv) ?_
        refine gp_ev rfl ((e_ne rfl rfl).to (v' := .bool false) (congrArg Value.bool (by simp))) ?_
        refine gp_ev rfl (e_mv) ?_
        refine gp_ev rfl (e_mv) ?_
        refine gp_ev rfl (e_eqp (b := false) Try.underlying40 rfl rfl rfl) ?_
        refine gp_ev rfl (e_mv) ?_
        refine gp_ev rfl (e_eqp (b := false) Try.underlying43 rfl rfl rfl) ?_
        refine gp_ev rfl ((e_neb Try.underlying4 rfl rfl).to (v' := .bool false) (congrArg Value.bool (rfl))) ?_
        refine gp_ev rfl (e_pk rfl) ?_
        refine gp_ev rfl (e_mv) ?_
        refine gp_ev rfl (e_mv) ?_
        refine gp_ev rfl (e_mv) ?_
        refine gp_ev rfl (e_nc rfl) ?_
        refine gp_ev rfl (e_fa Try.underlying47 rfl rfl Try.sizeOf22) ?_
        refine gp_ev rfl (e_ld Try.underlying22 rfl (by repeat ((conv => arg 2; whnf); first | with_reducible exact .here | ((with_reducible refine Del.hereC ?_); rfl) | ((with_reducible refine Del.hereS ?_ ?_ ?_) <;> rfl) | exact .here | apply Del.there)) rfl) ?_
        refine gp_ev rfl (e_b2s (bs := st.bs) Try.underlying22 Try.underlying5 Try.underlying9 rfl (fun B w h => h.rds (by repeat ((conv => arg 2; whnf); first | with_reducible exact .here | ((with_reducible refine Del.hereC ?_); rfl) | ((with_reducible refine Del.hereS ?_ ?_ ?_) <;> rfl) | exact .here | apply Del.there)))) ?_
        refine gp_eff rfl (s_call (bytes_t bm st (by omega)) (.cons (by repeat ((conv => arg 2; whnf); first | with_reducible exact .here | ((with_reducible refine Del.hereC ?_); rfl) | ((with_reducible refine Del.hereS ?_ ?_ ?_) <;> rfl) | exact .here | apply Del.there)) .nil)) ?_
        rintro _ _ ⟨_, ⟨a3, c3, rfl, rfl, hn3⟩, rfl⟩
        refine gp_evf rfl (e_b2s (bs := st.bs) Try.underlying22 Try.underlying5 Try.underlying9 rfl (fun B w h => h.rds .here)) ?_
        refine gp_ev rfl ((e_nes rfl rfl).to (v' := .bool false) (congrArg Value.bool (by simp))) ?_
        refine gp_ev rfl (e_pk rfl) ?_
        refine gp_ev rfl (e_mv) ?_
        refine gp_ev rfl (e_mv) ?_
        refine gp_ev rfl (e_mv) ?_
        refine gp_ev rfl (e_nc rfl) ?_
        refine gp_ev rfl (e_fa Try.underlying47 rfl rfl Try.sizeOf3) ?_
        refine gp_ev rfl (e_ld Try.underlying3 rfl (by repeat ((conv => arg 2; whnf); first | with_reducible exact .here | ((with_reducible refine Del.hereC ?_); rfl) | ((with_reducible refine Del.hereS ?_ ?_ ?_) <;> rfl) | exact .here | apply Del.there)) rfl) ?_
        refine gp_eff rfl (s_call (writes_t bm st) (.cons (by repeat ((conv => arg 2; whnf); first | with_reducible exact .here | ((with_reducible refine Del.hereC ?_); rfl) | ((with_reducible refine Del.hereS ?_ ?_ ?_) <;> rfl) | exact .here | apply Del.there)) (.nil))) ?_
        rintro _ _ ⟨_, ⟨rfl, rfl⟩, rfl⟩
        refine gp_ev rfl ((e_ne rfl rfl).to (v' := .bool false) (congrArg Value.bool (by simp))) ?_
        refine gp_ev rfl (e_pk rfl) ?_
        refine gp_ev rfl (e_mv) ?_
        refine gp_ev rfl (e_mv) ?_
        refine gp_ev rfl (e_mv) ?_
        refine gp_ev rfl (e_nc rfl) ?_
        refine gp_ev rfl (e_fa Try.underlying47 rfl rfl Try.sizeOf4) ?_
        refine gp_ev rfl (e_ld Try.underlying4 rfl (by repeat ((conv => arg 2; whnf); first | with_reducible exact .here | ((with_reducible refine Del.hereC ?_); rfl) | ((with_reducible refine Del.hereS ?_ ?_ ?_) <;> rfl) | exact .here | apply Del.there)) rfl) ?_
        refine gp_eff rfl (s_call (off_t bm st) (.cons (by repeat ((conv => arg 2; whnf); first | with_reducible exact .here | ((with_reducible refine Del.hereC ?_); rfl) | ((with_reducible refine Del.hereS ?_ ?_ ?_) <;> rfl) | exact .here | apply Del.there)) (.nil))) ?_
        rintro _ _ ⟨_, ⟨rfl, rfl⟩, rfl⟩
        refine gp_ev rfl ((e_neb Try.underlying4 rfl rfl).to (v' := .bool false) (congrArg Value.bool (by simp))) ?_
        refine gp_ev rfl (e_pk rfl) ?_
        refine gp_nil ?_
        refine gc_false ?_
        refine gc_skip ?_
        refine gc_seq ?_
        refine gc_seq ?_
        refine gc_fin (L1 := [memP bm st, refP br st, cO (some (bc, bd)) bm mx v dead, rO (some (bc, bd)) br mx v dead]) (F := L0 ++ F) (.cons (by repeat ((conv => arg 2; whnf); first | with_reducible exact .here | ((with_reducible refine Del.hereC ?_); rfl) | ((with_reducible refine Del.hereS ?_ ?_ ?_) <;> rfl) | exact .here | apply Del.there)) (.fold (M := refM br st _) (fun _ h => ⟨_, h⟩) (.cons (by repeat ((conv => arg 2; whnf); first | with_reducible exact .here | ((with_reducible refine Del.hereC ?_); rfl) | ((with_reducible refine Del.hereS ?_ ?_ ?_) <;> rfl) | exact .here | apply Del.there)) (.cons (by repeat ((conv => arg 2; whnf); first | with_reducible exact .here | ((with_reducible refine Del.hereC ?_); rfl) | ((with_reducible refine Del.hereS ?_ ?_ ?_) <;> rfl) | exact .here | apply Del.there)) (.cons (by repeat ((conv => arg 2; whnf); first | with_reducible exact .here | ((with_reducible refine Del.hereC ?_); rfl) | ((with_reducible refine Del.hereS ?_ ?_ ?_) <;> rfl) | exact .here | apply Del.there)) (.cons (by repeat ((conv => arg 2; whnf); first | with_reducible exact .here | ((with_reducible refine Del.hereC ?_); rfl) | ((with_reducible refine Del.hereS ?_ ?_ ?_) <;> rfl) | exact .here | apply Del.there)) (by repeat ((conv => arg 1; whnf); (conv => arg 2; whnf); first | with_reducible exact .done | exact Fin.all _ | refine .cons (by repeat ((conv => arg 2; whnf); first | with_reducible exact .here | ((with_reducible refine Del.hereC ?_); rfl) | ((with_reducible refine Del.hereS ?_ ?_ ?_) <;> rfl) | exact .here | apply Del.there)) ?_ | refine .drop ?_)))))))) ?_
        refine gc_draw (D := [cO (some (bc, bd)) bm mx v dead]) (fin := none) (plan := [(true, 0), (true, 1), (true, 2), (true, 3), (true, 5), (true, 6), (true, 7), (true, 8), (false, 4), (true, 9), (true, 10)]) rfl (by kernel_rfl) (by kernel_rfl) rfl (.cons (by repeat ((conv => arg 2; whnf); first | with_reducible exact .here | ((with_reducible refine Del.hereC ?_); rfl) | ((with_reducible refine Del.hereS ?_ ?_ ?_) <;> rfl) | exact .here | apply Del.there)) .nil) ?_
        refine gp_ev rfl (e_mv) ?_
        refine gp_ev rfl (e_nep (b := true) Try.underlying43 rfl rfl rfl) ?_
        refine gp_ev rfl (e_mv) ?_
        refine gp_ev rfl (e_mv) ?_
        refine gp_ev rfl (e_mv) ?_
        refine gp_ev rfl (e_nc rfl) ?_
        refine gp_ev rfl (e_fa Try.underlying51 rfl rfl Try.sizeOf35) ?_
        refine gp_ev rfl (e_ld Try.underlying35 rfl (by repeat ((conv => arg 2; whnf); first | with_reducible exact .here | ((with_reducible refine Del.hereC ?_); rfl) | ((with_reducible refine Del.hereS ?_ ?_ ?_) <;> rfl) | exact .here | apply Del.there)) rfl) ?_
        refine gp_eff rfl (s_call (value_t bc bm mx v dead) (.cons (by repeat ((conv => arg 2; whnf); first | with_reducible exact .here | ((with_reducible refine Del.hereC ?_); rfl) | ((with_reducible refine Del.hereS ?_ ?_ ?_) <;> rfl) | exact .here | apply Del.there)) (.nil))) ?_
        rintro _ _ ⟨_, ⟨rfl, rfl⟩, rfl⟩
        refine gp_ev rfl ((e_ne rfl rfl).to (v' := .bool false) (congrArg Value.bool (by simp))) ?_
        refine gp_ev rfl (e_pk rfl) ?_
        refine gp_nil ?_
        refine gc_false ?_
        refine gc_skip ?_
        refine gc_seq ?_
        refine gc_seq ?_
        refine gc_region ?_
        refine g_ev (e_mv) ?_
        refine g_ev (e_mv) ?_
        refine g_ev (e_len Try.underlying36 rfl) ?_
        refine g_ev (e_ge rfl rfl) ?_
        refine g_ev (e_mv) ?_
        first | refine g_dec 105 rfl (fun c105 => ?_) (fun c105 => ?_) | refine g_ndec 105 rfl (fun c105 => ?_) (fun c105 => ?_) | refine g_bool 105 rfl (fun c105 => ?_) (fun c105 => ?_)
        · skip
          refine g_not ?_
          refine g_not ?_
          refine g_ev (e_pk rfl) ?_
          refine g_nil ?_
          refine gc_true ?_
          refine gc_seq ?_
          refine gc_region ?_
          refine g_ev (e_as) ?_
          refine g_nil ?_
          refine gc_ret ?_
          exact ret1 (L1 := L0) rfl (by (conv => lhs; whnf); try rfl) ⟨rfl, rfl⟩ (fun _ h => h.fin (by repeat ((conv => arg 2; whnf); first | with_reducible refine Vc.Fin.drop ?_ | exact Vc.Fin.all _)))
        · skip
          refine g_ev (e_mv) ?_
          refine g_ev (e_ge rfl rfl) ?_
          refine g_ev (e_pk rfl) ?_
          refine g_nil ?_
          first | refine gc_dec rfl (fun c108 => ?_) (fun c108 => ?_) | refine gc_ndec rfl (fun c108 => ?_) (fun c108 => ?_) | refine gc_cond rfl (fun c108 => ?_) (fun c108 => ?_)
          · skip
            refine gc_seq ?_
            refine gc_region ?_
            refine g_ev (e_as) ?_
            refine g_nil ?_
            refine gc_ret ?_
            exact ret1 (L1 := L0) rfl (by (conv => lhs; whnf); try rfl) ⟨rfl, rfl⟩ (fun _ h => h.fin (by repeat ((conv => arg 2; whnf); first | with_reducible refine Vc.Fin.drop ?_ | exact Vc.Fin.all _)))
          · skip
            refine gc_skip ?_
            refine gc_seq ?_
            refine gc_region ?_
            refine g_ev (e_mv) ?_
            refine g_ev (e_mv) ?_
            obtain ⟨ad, rfl⟩ : ∃ ad, sa = some ad := by
              cases sa with
              | none => have := hsn rfl; omega
              | some ad => exact ⟨ad, rfl⟩
            refine g_ev (e_iaA (q := i) Try.underlying36 Try.sizeOf53 rfl rfl rfl (by omega)) ?_
            refine g_ev (e_faA Try.underlying53 rfl rfl Try.sizeOf3) ?_
            refine g_ev (e_ldc (v := .int .i64 (kd i)) Try.underlying3 rfl (fun B w h => ((hs _ w (h.fin (L1 := L0) (F := F) (by repeat ((conv => arg 2; whnf); first | with_reducible refine Vc.Fin.drop ?_ | exact Vc.Fin.all _))).left).2 ad rfl i (by omega)).1)) ?_
            refine g_nil ?_
            refine gc_block ?_
            refine gc_seq ?_
            refine gc_region ?_
            refine g_ev (e_eq rfl rfl) ?_
            refine g_ev (e_as) ?_
            refine g_nil ?_
            first | refine gc_dec rfl (fun c114 => ?_) (fun c114 => ?_) | refine gc_ndec rfl (fun c114 => ?_) (fun c114 => ?_) | refine gc_cond rfl (fun c114 => ?_) (fun c114 => ?_)
            · skip
              refine gc_seq ?_
              refine gc_region ?_
              refine g_ev (e_mv) ?_
              refine g_ev (e_mv) ?_
              refine g_eff (s_call (open_o bm st mx (by omega)) (.cons (by repeat ((conv => arg 2; whnf); first | with_reducible exact .here | ((with_reducible refine Del.hereC ?_); rfl) | ((with_reducible refine Del.hereS ?_ ?_ ?_) <;> rfl) | exact .here | apply Del.there)) .nil)) ?_
              rintro _ _ ⟨_, ⟨oc, rfl, rfl, hoc⟩, rfl⟩
              refine g_ev (e_mv) ?_
              refine g_ev (e_ex rfl) ?_
              refine g_ev (e_ex rfl) ?_
              refine g_ev (e_as) ?_
              refine g_ev (e_as) ?_
              refine g_nil ?_
              refine gc_region ?_
              refine g_ev (e_mv) ?_
              refine g_ev (e_mv) ?_
              refine g_eff (s_call (ropen_o br st mx (by omega)) (.cons (by repeat ((conv => arg 2; whnf); first | with_reducible exact .here | ((with_reducible refine Del.hereC ?_); rfl) | ((with_reducible refine Del.hereS ?_ ?_ ?_) <;> rfl) | exact .here | apply Del.there)) .nil)) ?_
              rintro _ _ ⟨_, ⟨od, rfl, rfl, hod⟩, rfl⟩
              refine g_ev (e_mv) ?_
              refine g_ev (e_ex rfl) ?_
              refine g_ev (e_ex rfl) ?_
              refine g_ev (e_as) ?_
              refine g_ev (e_as) ?_
              have hcd : oc.isSome = od.isSome := hoc.trans hod.symm
              refine g_fin (L1 := [memP bm (st.open mx).2, refP br (st.open mx).2, cO (pairO oc od) bm mx st.val false, rO (pairO oc od) br mx st.val false]) (F := L0 ++ F) (.cons (by repeat ((conv => arg 2; whnf); first | with_reducible exact .here | ((with_reducible refine Del.hereC ?_); rfl) | ((with_reducible refine Del.hereS ?_ ?_ ?_) <;> rfl) | exact .here | apply Del.there)) (.cons (by repeat ((conv => arg 2; whnf); first | with_reducible exact .here | ((with_reducible refine Del.hereC ?_); rfl) | ((with_reducible refine Del.hereS ?_ ?_ ?_) <;> rfl) | exact .here | apply Del.there)) (.fold (M := [optP oc _]) (pair1 hcd _) (.cons (by repeat ((conv => arg 2; whnf); first | with_reducible exact .here | ((with_reducible refine Del.hereC ?_); rfl) | ((with_reducible refine Del.hereS ?_ ?_ ?_) <;> rfl) | exact .here | apply Del.there)) (.fold (M := [optP od _]) (pair2 hcd _) (.cons (by repeat ((conv => arg 2; whnf); first | with_reducible exact .here | ((with_reducible refine Del.hereC ?_); rfl) | ((with_reducible refine Del.hereS ?_ ?_ ?_) <;> rfl) | exact .here | apply Del.there)) (by repeat ((conv => arg 1; whnf); (conv => arg 2; whnf); first | with_reducible exact .done | exact Fin.all _ | refine .cons (by repeat ((conv => arg 2; whnf); first | with_reducible exact .here | ((with_reducible refine Del.hereC ?_); rfl) | ((with_reducible refine Del.hereS ?_ ?_ ?_) <;> rfl) | exact .here | apply Del.there)) ?_ | refine .drop ?_)))))))) ?_
              refine g_nil ?_
              refine gc_region ?_
              refine g_ev (e_mv) ?_
              refine g_ev ((e_addw rfl rfl).to (v' := .int .i64 ((i + 1 : Nat) : Int)) (congrArg _ (wrapN (by omega) (by omega)))) ?_
              refine g_ev (e_as) ?_
              refine g_nil ?_
              refine Exists.intro (i + 1, (st.open mx).2, (pairO oc od), st.val, false, (st.open mx).1) (And.intro ⟨by show i + 1 ≤ 200; omega, (open_len st mx).trans hlen, fun h => (by rw [open_len]; exact open_ok (of_decide_eq_true (hoc.symm.trans (pair_some h)))), (by (conv => lhs; whnf); try rfl), (by (conv => lhs; whnf); try rfl), (by (conv => lhs; whnf); try rfl), (by (conv => lhs; whnf); try rfl), (by (conv => lhs; whnf); try rfl), (by (conv => lhs; whnf); try rfl), (by (conv => lhs; whnf); exact (congrArg Value.pointer (pairm1 hcd))), (by (conv => lhs; whnf); exact (congrArg Value.pointer (pairm2 hcd))), (by (conv => lhs; whnf); try rfl), ?_⟩ (by show 200 - (i + 1) < 200 - i; omega))
              exact rfl
            · skip
              refine gc_seq ?_
              refine gc_region ?_
              refine g_ev (e_eq rfl rfl) ?_
              refine g_ev (e_as) ?_
              refine g_nil ?_
              first | refine gc_dec rfl (fun c128 => ?_) (fun c128 => ?_) | refine gc_ndec rfl (fun c128 => ?_) (fun c128 => ?_) | refine gc_cond rfl (fun c128 => ?_) (fun c128 => ?_)
              · skip
                refine gc_seq ?_
                refine gc_region ?_
                refine g_ev (e_mv) ?_
                refine g_ev (e_nep (b := true) Try.underlying43 rfl rfl rfl) ?_
                refine g_nil ?_
                refine gc_true ?_
                refine gc_seq ?_
                refine gc_region ?_
                refine g_ev (e_mv) ?_
                refine g_eff (s_call (next_t bc bm st mx v dead h10 (by omega) hx) (.cons (by repeat ((conv => arg 2; whnf); first | with_reducible exact .here | ((with_reducible refine Del.hereC ?_); rfl) | ((with_reducible refine Del.hereS ?_ ?_ ?_) <;> rfl) | exact .here | apply Del.there)) (.cons (by repeat ((conv => arg 2; whnf); first | with_reducible exact .here | ((with_reducible refine Del.hereC ?_); rfl) | ((with_reducible refine Del.hereS ?_ ?_ ?_) <;> rfl) | exact .here | apply Del.there)) (.nil)))) ?_
                rintro _ _ ⟨_, ⟨rfl, rfl⟩, rfl⟩
                refine g_ev (e_mv) ?_
                refine g_ev (e_ex rfl) ?_
                refine g_ev (e_ex rfl) ?_
                refine g_ev (e_as) ?_
                refine g_ev (e_as) ?_
                refine g_nil ?_
                refine gc_seq ?_
                refine gc_region ?_
                refine g_ev (e_mv) ?_
                refine g_eff (s_call (rnext_t bd br st mx v dead h10 (by omega) hx) (.cons (by repeat ((conv => arg 2; whnf); first | with_reducible exact .here | ((with_reducible refine Del.hereC ?_); rfl) | ((with_reducible refine Del.hereS ?_ ?_ ?_) <;> rfl) | exact .here | apply Del.there)) (.cons (by repeat ((conv => arg 2; whnf); first | with_reducible exact .here | ((with_reducible refine Del.hereC ?_); rfl) | ((with_reducible refine Del.hereS ?_ ?_ ?_) <;> rfl) | exact .here | apply Del.there)) (.nil)))) ?_
                rintro _ _ ⟨_, ⟨rfl, rfl⟩, rfl⟩
                refine g_ev (e_mv) ?_
                refine g_ev (e_ex rfl) ?_
                refine g_ev (e_ex rfl) ?_
                refine g_ev (e_as) ?_
                refine g_ev (e_as) ?_
                refine g_nil ?_
                refine gc_seq ?_
                refine gc_region ?_
                refine g_ev (e_mv) ?_
                refine g_ev (e_mv) ?_
                refine g_ev ((e_ne rfl rfl).to (v' := .bool false) (congrArg Value.bool (by simp))) ?_
                refine g_ev (e_mv) ?_
                refine g_ev (e_mv) ?_
                refine g_ev (e_mv) ?_
                refine g_ev ((e_ne rfl rfl).to (v' := .bool false) (congrArg Value.bool (by simp))) ?_
                refine g_ev (e_pk rfl) ?_
                refine g_nil ?_
                refine gc_false ?_
                refine gc_skip ?_
                refine gc_region ?_
                refine g_fin (L1 := [memP bm ((st.next mx v dead).2.2.1), refP br ((st.next mx v dead).2.2.1), cO (some (bc, bd)) bm mx ((st.next mx v dead).2.2.2.1) ((st.next mx v dead).2.2.2.2), rO (some (bc, bd)) br mx ((st.next mx v dead).2.2.2.1) ((st.next mx v dead).2.2.2.2)]) (F := L0 ++ F) (.cons (by repeat ((conv => arg 2; whnf); first | with_reducible exact .here | ((with_reducible refine Del.hereC ?_); rfl) | ((with_reducible refine Del.hereS ?_ ?_ ?_) <;> rfl) | exact .here | apply Del.there)) (.cons (by repeat ((conv => arg 2; whnf); first | with_reducible exact .here | ((with_reducible refine Del.hereC ?_); rfl) | ((with_reducible refine Del.hereS ?_ ?_ ?_) <;> rfl) | exact .here | apply Del.there)) (.cons (by repeat ((conv => arg 2; whnf); first | with_reducible exact .here | ((with_reducible refine Del.hereC ?_); rfl) | ((with_reducible refine Del.hereS ?_ ?_ ?_) <;> rfl) | exact .here | apply Del.there)) (.cons (by repeat ((conv => arg 2; whnf); first | with_reducible exact .here | ((with_reducible refine Del.hereC ?_); rfl) | ((with_reducible refine Del.hereS ?_ ?_ ?_) <;> rfl) | exact .here | apply Del.there)) (by repeat ((conv => arg 1; whnf); (conv => arg 2; whnf); first | with_reducible exact .done | exact Fin.all _ | refine .cons (by repeat ((conv => arg 2; whnf); first | with_reducible exact .here | ((with_reducible refine Del.hereC ?_); rfl) | ((with_reducible refine Del.hereS ?_ ?_ ?_) <;> rfl) | exact .here | apply Del.there)) ?_ | refine .drop ?_)))))) ?_
                refine g_ev (e_mv) ?_
                refine g_ev ((e_addw rfl rfl).to (v' := .int .i64 ((i + 1 : Nat) : Int)) (congrArg _ (wrapN (by omega) (by omega)))) ?_
                refine g_ev (e_as) ?_
                refine g_nil ?_
                refine Exists.intro (i + 1, (st.next mx v dead).2.2.1, (some (bc, bd)), (st.next mx v dead).2.2.2.1, (st.next mx v dead).2.2.2.2, e) (And.intro ⟨by show i + 1 ≤ 200; omega, (next_len st mx v dead).trans hlen, fun _ => (by rw [next_len]; exact h10), (by (conv => lhs; whnf); try rfl), (by (conv => lhs; whnf); try rfl), (by (conv => lhs; whnf); try rfl), (by (conv => lhs; whnf); try rfl), (by (conv => lhs; whnf); try rfl), (by (conv => lhs; whnf); try rfl), (by (conv => lhs; whnf); try rfl), (by (conv => lhs; whnf); try rfl), (by (conv => lhs; whnf); try rfl), ?_⟩ (by show 200 - (i + 1) < 200 - i; omega))
                exact rfl
              · skip
                refine gc_seq ?_
                refine gc_region ?_
                refine g_ev (e_eq rfl rfl) ?_
                refine g_ev (e_as) ?_
                refine g_nil ?_
                first | refine gc_dec rfl (fun c150 => ?_) (fun c150 => ?_) | refine gc_ndec rfl (fun c150 => ?_) (fun c150 => ?_) | refine gc_cond rfl (fun c150 => ?_) (fun c150 => ?_)
                · skip
                  refine gc_draw (D := [memP bm st, refP br st]) (fin := none) (plan := [(true, 0), (true, 1), (true, 2), (true, 3), (true, 4), (true, 5), (true, 7), (true, 8), (true, 9), (true, 10), (true, 11), (true, 12), (false, 6), (false, 13), (true, 14), (true, 15)]) rfl (by kernel_rfl) (by kernel_rfl) rfl (.cons (by repeat ((conv => arg 2; whnf); first | with_reducible exact .here | ((with_reducible refine Del.hereC ?_); rfl) | ((with_reducible refine Del.hereS ?_ ?_ ?_) <;> rfl) | exact .here | apply Del.there)) (.cons (by repeat ((conv => arg 2; whnf); first | with_reducible exact .here | ((with_reducible refine Del.hereC ?_); rfl) | ((with_reducible refine Del.hereS ?_ ?_ ?_) <;> rfl) | exact .here | apply Del.there)) .nil)) ?_
                  refine gp_ev rfl (e_mv) ?_
                  refine gp_ev rfl (e_mv) ?_
                  refine gp_ev rfl (e_mv) ?_
                  refine gp_ev rfl (e_iaA (q := i) Try.underlying36 Try.sizeOf53 rfl rfl rfl (by omega)) ?_
                  refine gp_ev rfl (e_faA Try.underlying53 rfl rfl Try.sizeOf3) ?_
                  refine gp_ev rfl (e_ldc (v := .int .i64 (ar i)) Try.underlying3 rfl (fun B w h => ((hs _ w (h.fin (L1 := L0) (F := F) (by repeat ((conv => arg 2; whnf); first | with_reducible refine Vc.Fin.drop ?_ | exact Vc.Fin.all _))).left).2 ad rfl i (by omega)).2)) ?_
                  refine gp_ev rfl (e_mv) ?_
                  refine gp_ev rfl (e_mv) ?_
                  refine gp_ev rfl (e_mv) ?_
                  refine gp_ev rfl (e_iaA (q := i) Try.underlying36 Try.sizeOf53 rfl rfl rfl (by omega)) ?_
                  refine gp_ev rfl (e_faA Try.underlying53 rfl rfl Try.sizeOf3) ?_
                  refine gp_ev rfl (e_ldc (v := .int .i64 (ar i)) Try.underlying3 rfl (fun B w h => ((hs _ w (h.fin (L1 := L0) (F := F) (by repeat ((conv => arg 2; whnf); first | with_reducible refine Vc.Fin.drop ?_ | exact Vc.Fin.all _))).left).2 ad rfl i (by omega)).2)) ?_
                  refine gp_eff rfl (s_call (arm_t bm st (ar i)) (.cons (by repeat ((conv => arg 2; whnf); first | with_reducible exact .here | ((with_reducible refine Del.hereC ?_); rfl) | ((with_reducible refine Del.hereS ?_ ?_ ?_) <;> rfl) | exact .here | apply Del.there)) (.nil))) ?_
                  rintro _ _ ⟨_, ⟨rfl, rfl⟩, rfl⟩
                  refine gp_eff rfl (s_call (rarm_t br st (ar i)) (.cons (by repeat ((conv => arg 2; whnf); first | with_reducible exact .here | ((with_reducible refine Del.hereC ?_); rfl) | ((with_reducible refine Del.hereS ?_ ?_ ?_) <;> rfl) | exact .here | apply Del.there)) (.nil))) ?_
                  rintro _ _ ⟨_, ⟨rfl, rfl⟩, rfl⟩
                  refine gp_ev rfl (e_as) ?_
                  refine gp_ev rfl (e_as) ?_
                  refine gp_nil ?_
                  refine gc_region ?_
                  refine g_fin (L1 := [memP bm ((st.arm (ar i)).2), refP br ((st.arm (ar i)).2), cO (some (bc, bd)) bm mx (v) (dead), rO (some (bc, bd)) br mx (v) (dead)]) (F := L0 ++ F) (.cons (by repeat ((conv => arg 2; whnf); first | with_reducible exact .here | ((with_reducible refine Del.hereC ?_); rfl) | ((with_reducible refine Del.hereS ?_ ?_ ?_) <;> rfl) | exact .here | apply Del.there)) (.cons (by repeat ((conv => arg 2; whnf); first | with_reducible exact .here | ((with_reducible refine Del.hereC ?_); rfl) | ((with_reducible refine Del.hereS ?_ ?_ ?_) <;> rfl) | exact .here | apply Del.there)) (.cons (by repeat ((conv => arg 2; whnf); first | with_reducible exact .here | ((with_reducible refine Del.hereC ?_); rfl) | ((with_reducible refine Del.hereS ?_ ?_ ?_) <;> rfl) | exact .here | apply Del.there)) (.cons (by repeat ((conv => arg 2; whnf); first | with_reducible exact .here | ((with_reducible refine Del.hereC ?_); rfl) | ((with_reducible refine Del.hereS ?_ ?_ ?_) <;> rfl) | exact .here | apply Del.there)) (by repeat ((conv => arg 1; whnf); (conv => arg 2; whnf); first | with_reducible exact .done | exact Fin.all _ | refine .cons (by repeat ((conv => arg 2; whnf); first | with_reducible exact .here | ((with_reducible refine Del.hereC ?_); rfl) | ((with_reducible refine Del.hereS ?_ ?_ ?_) <;> rfl) | exact .here | apply Del.there)) ?_ | refine .drop ?_)))))) ?_
                  refine g_ev (e_mv) ?_
                  refine g_ev ((e_addw rfl rfl).to (v' := .int .i64 ((i + 1 : Nat) : Int)) (congrArg _ (wrapN (by omega) (by omega)))) ?_
                  refine g_ev (e_as) ?_
                  refine g_nil ?_
                  refine Exists.intro (i + 1, (st.arm (ar i)).2, (some (bc, bd)), v, dead, (st.arm (ar i)).1) (And.intro ⟨by show i + 1 ≤ 200; omega, (arm_len st _).trans hlen, fun _ => (by rw [arm_len]; exact h10), (by (conv => lhs; whnf); try rfl), (by (conv => lhs; whnf); try rfl), (by (conv => lhs; whnf); try rfl), (by (conv => lhs; whnf); try rfl), (by (conv => lhs; whnf); try rfl), (by (conv => lhs; whnf); try rfl), (by (conv => lhs; whnf); try rfl), (by (conv => lhs; whnf); try rfl), (by (conv => lhs; whnf); try rfl), ?_⟩ (by show 200 - (i + 1) < 200 - i; omega))
                  exact rfl
                · skip
                  refine gc_seq ?_
                  refine gc_region ?_
                  refine g_ev (e_eq rfl rfl) ?_
                  refine g_ev (e_as) ?_
                  refine g_nil ?_
                  first | refine gc_dec rfl (fun c166 => ?_) (fun c166 => ?_) | refine gc_ndec rfl (fun c166 => ?_) (fun c166 => ?_) | refine gc_cond rfl (fun c166 => ?_) (fun c166 => ?_)
                  · skip
                    refine gc_seq ?_
                    refine gc_region ?_
                    refine g_ev (e_mv) ?_
                    refine g_eff (s_call (on_t bm st) (.cons (by repeat ((conv => arg 2; whnf); first | with_reducible exact .here | ((with_reducible refine Del.hereC ?_); rfl) | ((with_reducible refine Del.hereS ?_ ?_ ?_) <;> rfl) | exact .here | apply Del.there)) (.nil))) ?_
                    rintro _ _ ⟨_, ⟨rfl, rfl⟩, rfl⟩
                    refine g_nil ?_
                    refine gc_region ?_
                    refine g_ev (e_mv) ?_
                    refine g_eff (s_call (ron_t br st) (.cons (by repeat ((conv => arg 2; whnf); first | with_reducible exact .here | ((with_reducible refine Del.hereC ?_); rfl) | ((with_reducible refine Del.hereS ?_ ?_ ?_) <;> rfl) | exact .here | apply Del.there)) (.nil))) ?_
                    rintro _ _ ⟨_, ⟨rfl, rfl⟩, rfl⟩
                    refine g_nil ?_
                    refine gc_region ?_
                    refine g_fin (L1 := [memP bm (st.on), refP br (st.on), cO (some (bc, bd)) bm mx (v) (dead), rO (some (bc, bd)) br mx (v) (dead)]) (F := L0 ++ F) (.cons (by repeat ((conv => arg 2; whnf); first | with_reducible exact .here | ((with_reducible refine Del.hereC ?_); rfl) | ((with_reducible refine Del.hereS ?_ ?_ ?_) <;> rfl) | exact .here | apply Del.there)) (.cons (by repeat ((conv => arg 2; whnf); first | with_reducible exact .here | ((with_reducible refine Del.hereC ?_); rfl) | ((with_reducible refine Del.hereS ?_ ?_ ?_) <;> rfl) | exact .here | apply Del.there)) (.cons (by repeat ((conv => arg 2; whnf); first | with_reducible exact .here | ((with_reducible refine Del.hereC ?_); rfl) | ((with_reducible refine Del.hereS ?_ ?_ ?_) <;> rfl) | exact .here | apply Del.there)) (.cons (by repeat ((conv => arg 2; whnf); first | with_reducible exact .here | ((with_reducible refine Del.hereC ?_); rfl) | ((with_reducible refine Del.hereS ?_ ?_ ?_) <;> rfl) | exact .here | apply Del.there)) (by repeat ((conv => arg 1; whnf); (conv => arg 2; whnf); first | with_reducible exact .done | exact Fin.all _ | refine .cons (by repeat ((conv => arg 2; whnf); first | with_reducible exact .here | ((with_reducible refine Del.hereC ?_); rfl) | ((with_reducible refine Del.hereS ?_ ?_ ?_) <;> rfl) | exact .here | apply Del.there)) ?_ | refine .drop ?_)))))) ?_
                    refine g_ev (e_mv) ?_
                    refine g_ev ((e_addw rfl rfl).to (v' := .int .i64 ((i + 1 : Nat) : Int)) (congrArg _ (wrapN (by omega) (by omega)))) ?_
                    refine g_ev (e_as) ?_
                    refine g_nil ?_
                    refine Exists.intro (i + 1, st.on, (some (bc, bd)), v, dead, e) (And.intro ⟨by show i + 1 ≤ 200; omega, hlen, fun _ => h10, (by (conv => lhs; whnf); try rfl), (by (conv => lhs; whnf); try rfl), (by (conv => lhs; whnf); try rfl), (by (conv => lhs; whnf); try rfl), (by (conv => lhs; whnf); try rfl), (by (conv => lhs; whnf); try rfl), (by (conv => lhs; whnf); try rfl), (by (conv => lhs; whnf); try rfl), (by (conv => lhs; whnf); try rfl), ?_⟩ (by show 200 - (i + 1) < 200 - i; omega))
                    exact rfl
                  · skip
                    refine gc_skip ?_
                    refine gc_region ?_
                    refine g_fin (L1 := [memP bm (st), refP br (st), cO (some (bc, bd)) bm mx (v) (dead), rO (some (bc, bd)) br mx (v) (dead)]) (F := L0 ++ F) (.cons (by repeat ((conv => arg 2; whnf); first | with_reducible exact .here | ((with_reducible refine Del.hereC ?_); rfl) | ((with_reducible refine Del.hereS ?_ ?_ ?_) <;> rfl) | exact .here | apply Del.there)) (.cons (by repeat ((conv => arg 2; whnf); first | with_reducible exact .here | ((with_reducible refine Del.hereC ?_); rfl) | ((with_reducible refine Del.hereS ?_ ?_ ?_) <;> rfl) | exact .here | apply Del.there)) (.cons (by repeat ((conv => arg 2; whnf); first | with_reducible exact .here | ((with_reducible refine Del.hereC ?_); rfl) | ((with_reducible refine Del.hereS ?_ ?_ ?_) <;> rfl) | exact .here | apply Del.there)) (.cons (by repeat ((conv => arg 2; whnf); first | with_reducible exact .here | ((with_reducible refine Del.hereC ?_); rfl) | ((with_reducible refine Del.hereS ?_ ?_ ?_) <;> rfl) | exact .here | apply Del.there)) (by repeat ((conv => arg 1; whnf); (conv => arg 2; whnf); first | with_reducible exact .done | exact Fin.all _ | refine .cons (by repeat ((conv => arg 2; whnf); first | with_reducible exact .here | ((with_reducible refine Del.hereC ?_); rfl) | ((with_reducible refine Del.hereS ?_ ?_ ?_) <;> rfl) | exact .here | apply Del.there)) ?_ | refine .drop ?_)))))) ?_
                    refine g_ev (e_mv) ?_
                    refine g_ev ((e_addw rfl rfl).to (v' := .int .i64 ((i + 1 : Nat) : Int)) (congrArg _ (wrapN (by omega) (by omega)))) ?_
                    refine g_ev (e_as) ?_
                    refine g_nil ?_
                    refine Exists.intro (i + 1, st, (some (bc, bd)), v, dead, e) (And.intro ⟨by show i + 1 ≤ 200; omega, hlen, fun _ => h10, (by (conv => lhs; whnf); try rfl), (by (conv => lhs; whnf); try rfl), (by (conv => lhs; whnf); try rfl), (by (conv => lhs; whnf); try rfl), (by (conv => lhs; whnf); try rfl), (by (conv => lhs; whnf); try rfl), (by (conv => lhs; whnf); try rfl), (by (conv => lhs; whnf); try rfl), (by (conv => lhs; whnf); try rfl), ?_⟩ (by show 200 - (i + 1) < 200 - i; omega))
                    exact rfl

end Go.Proofs.Ytpknnbkdkmogeaa
