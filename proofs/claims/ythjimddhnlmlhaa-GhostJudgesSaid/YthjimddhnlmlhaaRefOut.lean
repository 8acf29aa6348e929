/- The walk of the document's output; no conditions. -/
import Derived.Test.YthjimddhnlmlhaaAwake
namespace Go.Proofs.Ythjimddhnlmlhaa
open Go.Vc

/-- An end, as the document's judge keeps it. -/
structure REnd where
  watch : Int
  took : Bool
  sess : Nat
  num : Nat
  has : Bool
  value : List UInt8
  in_ : Nat
  since : Int
  latched : Int
  fresh : Bool
  acked : Bool
abbrev REnd.cells (x : REnd) : List Value := [.int .i64 x.watch, .bool x.took, .int .u32 (x.sess : Int), .int .u32 (x.num : Int), .bool x.has, .string ⟨x.value.toArray⟩, .int .u32 (x.in_ : Int), .int .i64 x.since, .int .i64 x.latched, .bool x.fresh, .bool x.acked]
def REnd.bad4 (x : REnd) (f : FactS) (dev : Bool) (ses : Nat) : Prop := f.on = true ∧ (x.has = false ∨ f.data.length = 0 ∨ x.value ≠ f.data ∨ dev = true ∧ x.in_ ≠ ses)
def REnd.bad6 (x : REnd) (f : FactS) : Prop := f.on = true ∧ (f.code ≠ 0 ∨ x.watch ≤ x.since)
def REnd.bad7 (x : REnd) (f : FactS) : Prop := x.watch ≤ x.since ∧ f.code = 0
def REnd.bad8 (x : REnd) (f : FactS) : Prop := x.latched ≠ 0 ∧ f.code = 0 ∧ x.acked = false
instance (x : REnd) (f : FactS) (dev : Bool) (ses : Nat) : Decidable (x.bad4 f dev ses) := by unfold REnd.bad4; infer_instance
instance (x : REnd) (f : FactS) : Decidable (x.bad6 f) := by unfold REnd.bad6; infer_instance
instance (x : REnd) (f : FactS) : Decidable (x.bad7 f) := by unfold REnd.bad7; infer_instance
instance (x : REnd) (f : FactS) : Decidable (x.bad8 f) := by unfold REnd.bad8; infer_instance
def REnd.outE (x : REnd) (f : FactS) : REnd := { x with fresh := if f.code ≠ x.latched then false else x.fresh, latched := f.code, acked := false }
def REnd.out (x : REnd) (f : FactS) (dev : Bool) (ses : Nat) : Int × REnd :=
  if x.bad4 f dev ses then (4, x) else if EndS.bad5 f then (5, x) else if x.bad6 f then (6, x) else if x.bad7 f then (7, x) else if x.bad8 f then (8, x) else (0, x.outE f)

theorem rout_t {bl : Nat} {pre post : List Value} (x : REnd) (f : FactS) (dev : Bool) (ses : Nat) {a : Option Addr} {c : Nat} {A : HProp} (hr : ∀ B w, Sat B w [A] → Rds w 1 (.slice a f.data.length c) f.data.length (bv f.data)) (hm : f.data.length ≤ 140737488355328) : Tri Try.prog 27 #[.pointer (some ⟨bl, pre.length, none⟩), .agg ⟨f.cells (.slice a f.data.length c)⟩, .bool dev, .int .u32 (ses : Int)] [blk bl 68 (pre ++ (x.cells ++ post)), A] (isR (.int .i64 (x.out f dev ses).1) [blk bl 68 (pre ++ ((x.out f dev ses).2.cells ++ post)), A]) := by
  refine tri_of Try.call27 Try.func27 rfl fun B F => ?_
  refine gc_seq ?_
  refine gc_region ?_
  refine g_eff (s_bx) ?_
  rintro _ _ ⟨b5, rfl, rfl⟩
  refine g_ev (e_as) ?_
  refine g_nil ?_
  refine gc_seq ?_
  refine gc_seq ?_
  refine gc_cut (fun E L => E 0 = .pointer (some ⟨bl, pre.length, none⟩) ∧ E 2 = .bool dev ∧ E 3 = .int .u32 (ses : Int) ∧ E 5 = .pointer (some ⟨b5, 0, none⟩) ∧ E 46 = .bool (decide (x.bad4 f dev ses)) ∧ ∀ w, Sat B w L → Sat B w (blk bl 68 (pre ++ (x.cells ++ post)) :: blk b5 43 (f.cells (.slice a f.data.length c)) :: A :: F)) ?_ ?_
  · skip
    refine gc_draw (D := []) (fin := none) (plan := [(true, 0), (true, 1), (true, 2), (true, 3), (true, 4), (true, 5), (true, 6), (true, 7), (true, 8), (true, 9), (true, 10), (true, 11), (true, 12), (true, 13), (true, 14), (true, 15), (true, 16), (true, 17), (true, 18), (true, 19), (true, 20), (true, 21), (true, 22), (true, 23), (true, 24), (true, 25), (true, 26), (true, 27), (true, 28), (true, 29), (true, 30), (true, 31), (true, 32), (true, 33), (true, 34), (true, 35)]) rfl (by kernel_rfl) (by kernel_rfl) rfl .nil ?_
    refine gp_ev rfl (e_fa Try.underlying43 rfl rfl Try.sizeOf4) ?_
    refine gp_ev rfl (e_ld Try.underlying4 rfl (by repeat ((conv => arg 2; whnf); first | with_reducible exact .here | ((with_reducible refine Del.hereC ?_); rfl) | ((with_reducible refine Del.hereS ?_ ?_ ?_) <;> rfl) | exact .here | apply Del.there)) rfl) ?_
    refine gp_ev rfl (e_mv) ?_
    first | refine gp_dec 13 rfl (fun c13 => ?_) (fun c13 => ?_) | refine gp_ndec 13 rfl (fun c13 => ?_) (fun c13 => ?_) | refine gp_bool 13 rfl (fun c13 => ?_) (fun c13 => ?_)
    · skip
      refine gp_ev rfl (e_mv) ?_
      refine gp_ev rfl (e_nc rfl) ?_
      refine gp_ev rfl (e_fa Try.underlying68 rfl rfl Try.sizeOf4) ?_
      refine gp_ev rfl (e_ldm 4 Try.underlying4 rfl (by repeat ((conv => arg 2; whnf); first | with_reducible exact .here | ((with_reducible refine Del.hereC ?_); rfl) | ((with_reducible refine Del.hereS ?_ ?_ ?_) <;> rfl) | exact .here | apply Del.there)) rfl) ?_
      refine gp_ev rfl (e_not' rfl) ?_
      refine gp_ev rfl (e_mv) ?_
      first | refine gp_dec 19 rfl (fun c19 => ?_) (fun c19 => ?_) | refine gp_ndec 19 rfl (fun c19 => ?_) (fun c19 => ?_) | refine gp_bool 19 rfl (fun c19 => ?_) (fun c19 => ?_)
      · skip
        refine gp_not rfl ?_
        refine gp_not rfl ?_
        refine gp_not rfl ?_
        refine gp_not rfl ?_
        refine gp_ev rfl (e_pk rfl) ?_
        refine gp_ev rfl (e_mv) ?_
        refine gp_not rfl ?_
        refine gp_not rfl ?_
        refine gp_not rfl ?_
        refine gp_not rfl ?_
        refine gp_not rfl ?_
        refine gp_not rfl ?_
        refine gp_not rfl ?_
        refine gp_not rfl ?_
        refine gp_ev rfl (e_pk rfl) ?_
        refine gp_ev rfl (e_mv) ?_
        refine gp_not rfl ?_
        refine gp_not rfl ?_
        refine gp_not rfl ?_
        refine gp_not rfl ?_
        refine gp_not rfl ?_
        refine gp_not rfl ?_
        refine gp_not rfl ?_
        refine gp_not rfl ?_
        refine gp_not rfl ?_
        refine gp_ev rfl (e_pk rfl) ?_
        refine gp_ev rfl (e_pk rfl) ?_
        refine gp_nil ?_
        exact ⟨(by (conv => lhs; whnf); try first | rfl | (refine congrArg Value.bool ?_; simp_all) | simp_all), (by (conv => lhs; whnf); try first | rfl | (refine congrArg Value.bool ?_; simp_all) | simp_all), (by (conv => lhs; whnf); try first | rfl | (refine congrArg Value.bool ?_; simp_all) | simp_all), (by (conv => lhs; whnf); try first | rfl | (refine congrArg Value.bool ?_; simp_all) | simp_all), (by (conv => lhs; whnf); refine congrArg Value.bool ?_; rw [Bool.eq_iff_iff, decide_eq_true_iff]; clear hr; unfold REnd.bad4; first | (simp_all; done) | (simp_all; omega) | (simp; omega)), (fun _ h => h.fin (L1 := [blk bl 68 (pre ++ (x.cells ++ post)), blk b5 43 (f.cells (.slice a f.data.length c)), A]) (F := F) (by repeat ((conv => arg 1; whnf); (conv => arg 2; whnf); first | with_reducible exact .done | exact Fin.all _ | refine .cons (by repeat ((conv => arg 2; whnf); first | with_reducible exact .here | ((with_reducible refine Del.hereC ?_); rfl) | ((with_reducible refine Del.hereS ?_ ?_ ?_) <;> rfl) | exact .here | apply Del.there)) ?_ | refine .drop ?_)))⟩
      · skip
        refine gp_ev rfl (e_fa Try.underlying43 rfl rfl Try.sizeOf41) ?_
        refine gp_ev rfl (e_ld Try.underlying41 rfl (by repeat ((conv => arg 2; whnf); first | with_reducible exact .here | ((with_reducible refine Del.hereC ?_); rfl) | ((with_reducible refine Del.hereS ?_ ?_ ?_) <;> rfl) | exact .here | apply Del.there)) rfl) ?_
        refine gp_ev rfl (e_len Try.underlying41 rfl) ?_
        refine gp_ev rfl (e_eq rfl rfl) ?_
        refine gp_ev rfl (e_pk rfl) ?_
        refine gp_ev rfl (e_mv) ?_
        first | refine gp_dec 25 rfl (fun c25 => ?_) (fun c25 => ?_) | refine gp_ndec 25 rfl (fun c25 => ?_) (fun c25 => ?_) | refine gp_bool 25 rfl (fun c25 => ?_) (fun c25 => ?_)
        · skip
          refine gp_not rfl ?_
          refine gp_not rfl ?_
          refine gp_not rfl ?_
          refine gp_not rfl ?_
          refine gp_not rfl ?_
          refine gp_not rfl ?_
          refine gp_not rfl ?_
          refine gp_not rfl ?_
          refine gp_ev rfl (e_pk rfl) ?_
          refine gp_ev rfl (e_mv) ?_
          refine gp_not rfl ?_
          refine gp_not rfl ?_
          refine gp_not rfl ?_
          refine gp_not rfl ?_
          refine gp_not rfl ?_
          refine gp_not rfl ?_
          refine gp_not rfl ?_
          refine gp_not rfl ?_
          refine gp_not rfl ?_
          refine gp_ev rfl (e_pk rfl) ?_
          refine gp_ev rfl (e_pk rfl) ?_
          refine gp_nil ?_
          exact ⟨(by (conv => lhs; whnf); try first | rfl | (refine congrArg Value.bool ?_; simp_all) | simp_all), (by (conv => lhs; whnf); try first | rfl | (refine congrArg Value.bool ?_; simp_all) | simp_all), (by (conv => lhs; whnf); try first | rfl | (refine congrArg Value.bool ?_; simp_all) | simp_all), (by (conv => lhs; whnf); try first | rfl | (refine congrArg Value.bool ?_; simp_all) | simp_all), (by (conv => lhs; whnf); refine congrArg Value.bool ?_; rw [Bool.eq_iff_iff, decide_eq_true_iff]; clear hr; unfold REnd.bad4; first | (simp_all; done) | (simp_all; omega) | (simp; omega)), (fun _ h => h.fin (L1 := [blk bl 68 (pre ++ (x.cells ++ post)), blk b5 43 (f.cells (.slice a f.data.length c)), A]) (F := F) (by repeat ((conv => arg 1; whnf); (conv => arg 2; whnf); first | with_reducible exact .done | exact Fin.all _ | refine .cons (by repeat ((conv => arg 2; whnf); first | with_reducible exact .here | ((with_reducible refine Del.hereC ?_); rfl) | ((with_reducible refine Del.hereS ?_ ?_ ?_) <;> rfl) | exact .here | apply Del.there)) ?_ | refine .drop ?_)))⟩
        · skip
          refine gp_ev rfl (e_mv) ?_
          refine gp_ev rfl (e_nc rfl) ?_
          refine gp_ev rfl (e_fa Try.underlying68 rfl rfl Try.sizeOf9) ?_
          refine gp_ev rfl (e_ldm 5 Try.underlying9 rfl (by repeat ((conv => arg 2; whnf); first | with_reducible exact .here | ((with_reducible refine Del.hereC ?_); rfl) | ((with_reducible refine Del.hereS ?_ ?_ ?_) <;> rfl) | exact .here | apply Del.there)) rfl) ?_
          refine gp_ev rfl (e_fa Try.underlying43 rfl rfl Try.sizeOf41) ?_
          refine gp_ev rfl (e_ld Try.underlying41 rfl (by repeat ((conv => arg 2; whnf); first | with_reducible exact .here | ((with_reducible refine Del.hereC ?_); rfl) | ((with_reducible refine Del.hereS ?_ ?_ ?_) <;> rfl) | exact .here | apply Del.there)) rfl) ?_
          refine gp_ev rfl (e_b2s (bs := f.data) Try.underlying41 Try.underlying5 Try.underlying9 rfl (fun B w h => hr B w ((h.fin (L1 := [A]) (F := F) (by repeat ((conv => arg 1; whnf); (conv => arg 2; whnf); first | with_reducible exact .done | exact Fin.all _ | refine .cons (by repeat ((conv => arg 2; whnf); first | with_reducible exact .here | ((with_reducible refine Del.hereC ?_); rfl) | ((with_reducible refine Del.hereS ?_ ?_ ?_) <;> rfl) | exact .here | apply Del.there)) ?_ | refine .drop ?_))).left (L1 := [A])))) ?_
          refine gp_ev rfl (e_nes rfl rfl) ?_
          refine gp_ev rfl (e_pk rfl) ?_
          refine gp_ev rfl (e_mv) ?_
          first | refine gp_dec 35 rfl (fun c35 => ?_) (fun c35 => ?_) | refine gp_ndec 35 rfl (fun c35 => ?_) (fun c35 => ?_) | refine gp_bool 35 rfl (fun c35 => ?_) (fun c35 => ?_)
          · skip
            refine gp_not rfl ?_
            refine gp_not rfl ?_
            refine gp_not rfl ?_
            refine gp_not rfl ?_
            refine gp_not rfl ?_
            refine gp_not rfl ?_
            refine gp_not rfl ?_
            refine gp_not rfl ?_
            refine gp_not rfl ?_
            refine gp_ev rfl (e_pk rfl) ?_
            refine gp_ev rfl (e_pk rfl) ?_
            refine gp_nil ?_
            exact ⟨(by (conv => lhs; whnf); try first | rfl | (refine congrArg Value.bool ?_; simp_all) | simp_all), (by (conv => lhs; whnf); try first | rfl | (refine congrArg Value.bool ?_; simp_all) | simp_all), (by (conv => lhs; whnf); try first | rfl | (refine congrArg Value.bool ?_; simp_all) | simp_all), (by (conv => lhs; whnf); try first | rfl | (refine congrArg Value.bool ?_; simp_all) | simp_all), (by (conv => lhs; whnf); refine congrArg Value.bool ?_; rw [Bool.eq_iff_iff, decide_eq_true_iff]; clear hr; unfold REnd.bad4; first | (simp_all; done) | (simp_all; omega) | (simp; omega)), (fun _ h => h.fin (L1 := [blk bl 68 (pre ++ (x.cells ++ post)), blk b5 43 (f.cells (.slice a f.data.length c)), A]) (F := F) (by repeat ((conv => arg 1; whnf); (conv => arg 2; whnf); first | with_reducible exact .done | exact Fin.all _ | refine .cons (by repeat ((conv => arg 2; whnf); first | with_reducible exact .here | ((with_reducible refine Del.hereC ?_); rfl) | ((with_reducible refine Del.hereS ?_ ?_ ?_) <;> rfl) | exact .here | apply Del.there)) ?_ | refine .drop ?_)))⟩
          · skip
            refine gp_ev rfl (e_mv) ?_
            refine gp_ev rfl (e_mv) ?_
            first | refine gp_dec 37 rfl (fun c37 => ?_) (fun c37 => ?_) | refine gp_ndec 37 rfl (fun c37 => ?_) (fun c37 => ?_) | refine gp_bool 37 rfl (fun c37 => ?_) (fun c37 => ?_)
            · skip
              refine gp_ev rfl (e_mv) ?_
              refine gp_ev rfl (e_nc rfl) ?_
              refine gp_ev rfl (e_fa Try.underlying68 rfl rfl Try.sizeOf23) ?_
              refine gp_ev rfl (e_ldm 6 Try.underlying23 rfl (by repeat ((conv => arg 2; whnf); first | with_reducible exact .here | ((with_reducible refine Del.hereC ?_); rfl) | ((with_reducible refine Del.hereS ?_ ?_ ?_) <;> rfl) | exact .here | apply Del.there)) rfl) ?_
              refine gp_ev rfl (e_mv) ?_
              refine gp_ev rfl (e_ne rfl rfl) ?_
              refine gp_ev rfl (e_pk rfl) ?_
              refine gp_ev rfl (e_pk rfl) ?_
              refine gp_ev rfl (e_pk rfl) ?_
              refine gp_nil ?_
              exact ⟨(by (conv => lhs; whnf); try first | rfl | (refine congrArg Value.bool ?_; simp_all) | simp_all), (by (conv => lhs; whnf); try first | rfl | (refine congrArg Value.bool ?_; simp_all) | simp_all), (by (conv => lhs; whnf); try first | rfl | (refine congrArg Value.bool ?_; simp_all) | simp_all), (by (conv => lhs; whnf); try first | rfl | (refine congrArg Value.bool ?_; simp_all) | simp_all), (by (conv => lhs; whnf); refine congrArg Value.bool ?_; rw [Bool.eq_iff_iff, decide_eq_true_iff]; clear hr; unfold REnd.bad4; first | (simp_all; done) | (simp_all; omega) | (simp; omega)), (fun _ h => h.fin (L1 := [blk bl 68 (pre ++ (x.cells ++ post)), blk b5 43 (f.cells (.slice a f.data.length c)), A]) (F := F) (by repeat ((conv => arg 1; whnf); (conv => arg 2; whnf); first | with_reducible exact .done | exact Fin.all _ | refine .cons (by repeat ((conv => arg 2; whnf); first | with_reducible exact .here | ((with_reducible refine Del.hereC ?_); rfl) | ((with_reducible refine Del.hereS ?_ ?_ ?_) <;> rfl) | exact .here | apply Del.there)) ?_ | refine .drop ?_)))⟩
            · skip
              refine gp_not rfl ?_
              refine gp_not rfl ?_
              refine gp_not rfl ?_
              refine gp_not rfl ?_
              refine gp_not rfl ?_
              refine gp_not rfl ?_
              refine gp_ev rfl (e_pk rfl) ?_
              refine gp_ev rfl (e_pk rfl) ?_
              refine gp_ev rfl (e_pk rfl) ?_
              refine gp_nil ?_
              exact ⟨(by (conv => lhs; whnf); try first | rfl | (refine congrArg Value.bool ?_; simp_all) | simp_all), (by (conv => lhs; whnf); try first | rfl | (refine congrArg Value.bool ?_; simp_all) | simp_all), (by (conv => lhs; whnf); try first | rfl | (refine congrArg Value.bool ?_; simp_all) | simp_all), (by (conv => lhs; whnf); try first | rfl | (refine congrArg Value.bool ?_; simp_all) | simp_all), (by (conv => lhs; whnf); refine congrArg Value.bool ?_; rw [Bool.eq_iff_iff, decide_eq_true_iff]; clear hr; unfold REnd.bad4; first | (simp_all; done) | (simp_all; omega) | (simp; omega)), (fun _ h => h.fin (L1 := [blk bl 68 (pre ++ (x.cells ++ post)), blk b5 43 (f.cells (.slice a f.data.length c)), A]) (F := F) (by repeat ((conv => arg 1; whnf); (conv => arg 2; whnf); first | with_reducible exact .done | exact Fin.all _ | refine .cons (by repeat ((conv => arg 2; whnf); first | with_reducible exact .here | ((with_reducible refine Del.hereC ?_); rfl) | ((with_reducible refine Del.hereS ?_ ?_ ?_) <;> rfl) | exact .here | apply Del.there)) ?_ | refine .drop ?_)))⟩
    · skip
      refine gp_not rfl ?_
      refine gp_not rfl ?_
      refine gp_not rfl ?_
      refine gp_not rfl ?_
      refine gp_not rfl ?_
      refine gp_not rfl ?_
      refine gp_not rfl ?_
      refine gp_not rfl ?_
      refine gp_not rfl ?_
      refine gp_not rfl ?_
      refine gp_not rfl ?_
      refine gp_not rfl ?_
      refine gp_not rfl ?_
      refine gp_not rfl ?_
      refine gp_not rfl ?_
      refine gp_not rfl ?_
      refine gp_not rfl ?_
      refine gp_not rfl ?_
      refine gp_not rfl ?_
      refine gp_not rfl ?_
      refine gp_not rfl ?_
      refine gp_not rfl ?_
      refine gp_not rfl ?_
      refine gp_not rfl ?_
      refine gp_not rfl ?_
      refine gp_not rfl ?_
      refine gp_not rfl ?_
      refine gp_not rfl ?_
      refine gp_not rfl ?_
      refine gp_not rfl ?_
      refine gp_not rfl ?_
      refine gp_not rfl ?_
      refine gp_ev rfl (e_pk rfl) ?_
      refine gp_nil ?_
      exact ⟨(by (conv => lhs; whnf); try first | rfl | (refine congrArg Value.bool ?_; simp_all) | simp_all), (by (conv => lhs; whnf); try first | rfl | (refine congrArg Value.bool ?_; simp_all) | simp_all), (by (conv => lhs; whnf); try first | rfl | (refine congrArg Value.bool ?_; simp_all) | simp_all), (by (conv => lhs; whnf); try first | rfl | (refine congrArg Value.bool ?_; simp_all) | simp_all), (by (conv => lhs; whnf); refine congrArg Value.bool ?_; rw [Bool.eq_iff_iff, decide_eq_true_iff]; clear hr; unfold REnd.bad4; first | (simp_all; done) | (simp_all; omega) | (simp; omega)), (fun _ h => h.fin (L1 := [blk bl 68 (pre ++ (x.cells ++ post)), blk b5 43 (f.cells (.slice a f.data.length c)), A]) (F := F) (by repeat ((conv => arg 1; whnf); (conv => arg 2; whnf); first | with_reducible exact .done | exact Fin.all _ | refine .cons (by repeat ((conv => arg 2; whnf); first | with_reducible exact .here | ((with_reducible refine Del.hereC ?_); rfl) | ((with_reducible refine Del.hereS ?_ ?_ ?_) <;> rfl) | exact .here | apply Del.there)) ?_ | refine .drop ?_)))⟩
  · rintro E L ⟨s0, s2, s3, s5, s46, hL⟩
    refine gc_imp hL ?_
    refine gc_slot 0 _ ?_ s0
    refine gc_slot 2 _ ?_ s2
    refine gc_slot 3 _ ?_ s3
    refine gc_slot 5 _ ?_ s5
    refine gc_slot 46 _ ?_ s46
    clear hL s0 s2 s3 s5 s46
    first | refine gc_dec rfl (fun c46 => ?_) (fun c46 => ?_) | refine gc_ndec rfl (fun c46 => ?_) (fun c46 => ?_) | refine gc_cond rfl (fun c46 => ?_) (fun c46 => ?_)
    · skip
      refine gc_seq ?_
      refine gc_region ?_
      refine g_ev (e_as) ?_
      refine g_nil ?_
      refine gc_ret ?_
      exact ret1 (v := .int .i64 4) (L1 := [blk bl 68 (pre ++ (x.cells ++ post)), A]) rfl (by (conv => lhs; whnf); try rfl) ⟨by unfold REnd.out; rw [if_pos c46], by unfold REnd.out; rw [if_pos c46]⟩ (fun _ h => h.fin (by repeat ((conv => arg 1; whnf); (conv => arg 2; whnf); first | with_reducible exact .done | exact Fin.all _ | refine .cons (by repeat ((conv => arg 2; whnf); first | with_reducible exact .here | ((with_reducible refine Del.hereC ?_); rfl) | ((with_reducible refine Del.hereS ?_ ?_ ?_) <;> rfl) | exact .here | apply Del.there)) ?_ | refine .drop ?_)))
    · skip
      refine gc_skip ?_
      refine gc_seq ?_
      refine gc_seq ?_
      refine gc_region ?_
      refine g_ev (e_as) ?_
      refine g_nil ?_
      refine gc_block ?_
      refine gc_loop (α := Nat) (fun i E L => (i ≤ f.data.length) ∧ (f.on = false → (f.data.take i).any (fun c => decide (c ≠ 0)) = false) ∧ E 0 = .pointer (some ⟨bl, pre.length, none⟩) ∧ E 2 = .bool dev ∧ E 3 = .int .u32 (ses : Int) ∧ E 5 = .pointer (some ⟨b5, 0, none⟩) ∧ E 9 = .int .i64 (i : Int) ∧ ∀ w, Sat B w L → Sat B w (blk bl 68 (pre ++ (x.cells ++ post)) :: blk b5 43 (f.cells (.slice a f.data.length c)) :: A :: F)) (fun i => f.data.length - i) 0 ?_ ?_
      · exact ⟨Nat.zero_le _, fun _ => rfl, (by (conv => lhs; whnf); try rfl), (by (conv => lhs; whnf); try rfl), (by (conv => lhs; whnf); try rfl), (by (conv => lhs; whnf); try rfl), (by (conv => lhs; whnf); try rfl), (fun _ h => h.fin (L1 := [blk bl 68 (pre ++ (x.cells ++ post)), blk b5 43 (f.cells (.slice a f.data.length c)), A]) (F := F) (by repeat ((conv => arg 1; whnf); (conv => arg 2; whnf); first | with_reducible exact .done | exact Fin.all _ | refine .cons (by repeat ((conv => arg 2; whnf); first | with_reducible exact .here | ((with_reducible refine Del.hereC ?_); rfl) | ((with_reducible refine Del.hereS ?_ ?_ ?_) <;> rfl) | exact .here | apply Del.there)) ?_ | refine .drop ?_)))⟩
      · rintro i E L ⟨hi, ht, s0, s2, s3, s5, s9, hL⟩
        refine gc_imp hL ?_
        refine gc_slot 0 _ ?_ s0
        refine gc_slot 2 _ ?_ s2
        refine gc_slot 3 _ ?_ s3
        refine gc_slot 5 _ ?_ s5
        refine gc_slot 9 _ ?_ s9
        clear hL s0 s2 s3 s5 s9
        refine gc_seq ?_
        refine gc_seq ?_
        refine gc_region ?_
        refine g_ev (e_mv) ?_
        refine g_ev (e_fa Try.underlying43 rfl rfl Try.sizeOf41) ?_
        refine g_ev (e_ld Try.underlying41 rfl (by repeat ((conv => arg 2; whnf); first | with_reducible exact .here | ((with_reducible refine Del.hereC ?_); rfl) | ((with_reducible refine Del.hereS ?_ ?_ ?_) <;> rfl) | exact .here | apply Del.there)) rfl) ?_
        refine g_ev (e_len Try.underlying41 rfl) ?_
        refine g_ev (e_lt rfl rfl) ?_
        refine g_nil ?_
        first | refine gc_dec rfl (fun c51 => ?_) (fun c51 => ?_) | refine gc_ndec rfl (fun c51 => ?_) (fun c51 => ?_) | refine gc_cond rfl (fun c51 => ?_) (fun c51 => ?_)
        · skip
          refine gc_skip ?_
          refine gc_seq ?_
          refine gc_block ?_
          refine gc_seq ?_
          refine gc_region ?_
          obtain ⟨y, hy⟩ : ∃ y, f.data[i]? = some y := ⟨_, List.getElem?_eq_getElem (by omega)⟩
          refine g_fact (φ := ∃ ad, a = some ad) (fun w h => (hr _ w ((h.fin (L1 := [A]) (F := F) (by repeat ((conv => arg 1; whnf); (conv => arg 2; whnf); first | with_reducible exact .done | exact Fin.all _ | refine .cons (by repeat ((conv => arg 2; whnf); first | with_reducible exact .here | ((with_reducible refine Del.hereC ?_); rfl) | ((with_reducible refine Del.hereS ?_ ?_ ?_) <;> rfl) | exact .here | apply Del.there)) ?_ | refine .drop ?_))).left (L1 := [A]))).some_ (by omega)) fun ⟨p1, e1⟩ => ?_
          subst e1
          refine g_ev (e_fa Try.underlying43 rfl rfl Try.sizeOf4) ?_
          refine g_ev (e_ld Try.underlying4 rfl (by repeat ((conv => arg 2; whnf); first | with_reducible exact .here | ((with_reducible refine Del.hereC ?_); rfl) | ((with_reducible refine Del.hereS ?_ ?_ ?_) <;> rfl) | exact .here | apply Del.there)) rfl) ?_
          refine g_ev (e_not' rfl) ?_
          refine g_ev (e_mv) ?_
          first | refine g_dec 57 rfl (fun c57 => ?_) (fun c57 => ?_) | refine g_ndec 57 rfl (fun c57 => ?_) (fun c57 => ?_) | refine g_bool 57 rfl (fun c57 => ?_) (fun c57 => ?_)
          · skip
            refine g_ev (e_fa Try.underlying43 rfl rfl Try.sizeOf41) ?_
            refine g_ev (e_ld Try.underlying41 rfl (by repeat ((conv => arg 2; whnf); first | with_reducible exact .here | ((with_reducible refine Del.hereC ?_); rfl) | ((with_reducible refine Del.hereS ?_ ?_ ?_) <;> rfl) | exact .here | apply Del.there)) rfl) ?_
            refine g_ev (e_mv) ?_
            refine g_ev (e_iaA (q := i) Try.underlying41 Try.sizeOf5 rfl rfl rfl (by omega)) ?_
            refine g_ev (e_ldc (v := .int .u8 (y.toNat : Int)) Try.underlying5 rfl (fun B w h => (hr B w ((h.fin (L1 := [A]) (F := F) (by repeat ((conv => arg 1; whnf); (conv => arg 2; whnf); first | with_reducible exact .done | exact Fin.all _ | refine .cons (by repeat ((conv => arg 2; whnf); first | with_reducible exact .here | ((with_reducible refine Del.hereC ?_); rfl) | ((with_reducible refine Del.hereS ?_ ?_ ?_) <;> rfl) | exact .here | apply Del.there)) ?_ | refine .drop ?_))).left (L1 := [A]))).cell hy)) ?_
            refine g_ev (e_ne rfl rfl) ?_
            refine g_ev (e_pk rfl) ?_
            refine g_nil ?_
            first | refine gc_dec rfl (fun c64 => ?_) (fun c64 => ?_) | refine gc_ndec rfl (fun c64 => ?_) (fun c64 => ?_) | refine gc_cond rfl (fun c64 => ?_) (fun c64 => ?_)
            · skip
              refine gc_seq ?_
              refine gc_region ?_
              refine g_ev (e_as) ?_
              refine g_nil ?_
              refine gc_ret ?_
              have hb5 : EndS.bad5 f := ⟨by simpa using c57, List.any_eq_true.2 ⟨y, List.mem_of_getElem? hy, by rw [decide_eq_true_iff]; rintro rfl; exact c64 rfl⟩⟩
              exact ret1 (v := .int .i64 5) (L1 := [blk bl 68 (pre ++ (x.cells ++ post)), A]) rfl (by (conv => lhs; whnf); try rfl) ⟨by unfold REnd.out; rw [if_neg c46, if_pos hb5], by unfold REnd.out; rw [if_neg c46, if_pos hb5]⟩ (fun _ h => h.fin (by repeat ((conv => arg 1; whnf); (conv => arg 2; whnf); first | with_reducible exact .done | exact Fin.all _ | refine .cons (by repeat ((conv => arg 2; whnf); first | with_reducible exact .here | ((with_reducible refine Del.hereC ?_); rfl) | ((with_reducible refine Del.hereS ?_ ?_ ?_) <;> rfl) | exact .here | apply Del.there)) ?_ | refine .drop ?_)))
            · skip
              refine gc_skip ?_
              refine gc_region ?_
              refine g_ev (e_mv) ?_
              refine g_ev ((e_addw rfl rfl).to (v' := .int .i64 ((i + 1 : Nat) : Int)) (congrArg _ (wrapN (by omega) (by omega)))) ?_
              refine g_ev (e_as) ?_
              refine g_nil ?_
              refine Exists.intro (i + 1) (And.intro ⟨(by omega), (fun hf => (by rw [List.take_add_one, hy, List.any_append, ht hf]; have hz : y = 0 := UInt8.toNat_inj.1 (by simpa using c64); simp [hz])), (by (conv => lhs; whnf); try rfl), (by (conv => lhs; whnf); try rfl), (by (conv => lhs; whnf); try rfl), (by (conv => lhs; whnf); try rfl), (by (conv => lhs; whnf); try rfl), (fun _ h => h.fin (L1 := [blk bl 68 (pre ++ (x.cells ++ post)), blk b5 43 (f.cells (.slice (some p1) f.data.length c)), A]) (F := F) (by repeat ((conv => arg 1; whnf); (conv => arg 2; whnf); first | with_reducible exact .done | exact Fin.all _ | refine .cons (by repeat ((conv => arg 2; whnf); first | with_reducible exact .here | ((with_reducible refine Del.hereC ?_); rfl) | ((with_reducible refine Del.hereS ?_ ?_ ?_) <;> rfl) | exact .here | apply Del.there)) ?_ | refine .drop ?_)))⟩ (by omega))
          · skip
            refine g_not ?_
            refine g_not ?_
            refine g_not ?_
            refine g_not ?_
            refine g_not ?_
            refine g_not ?_
            refine g_ev (e_pk rfl) ?_
            refine g_nil ?_
            refine gc_false ?_
            refine gc_skip ?_
            refine gc_region ?_
            refine g_ev (e_mv) ?_
            refine g_ev ((e_addw rfl rfl).to (v' := .int .i64 ((i + 1 : Nat) : Int)) (congrArg _ (wrapN (by omega) (by omega)))) ?_
            refine g_ev (e_as) ?_
            refine g_nil ?_
            refine Exists.intro (i + 1) (And.intro ⟨(by omega), (fun hf => (by simp [hf] at c57)), (by (conv => lhs; whnf); try rfl), (by (conv => lhs; whnf); try rfl), (by (conv => lhs; whnf); try rfl), (by (conv => lhs; whnf); try rfl), (by (conv => lhs; whnf); try rfl), (fun _ h => h.fin (L1 := [blk bl 68 (pre ++ (x.cells ++ post)), blk b5 43 (f.cells (.slice (some p1) f.data.length c)), A]) (F := F) (by repeat ((conv => arg 1; whnf); (conv => arg 2; whnf); first | with_reducible exact .done | exact Fin.all _ | refine .cons (by repeat ((conv => arg 2; whnf); first | with_reducible exact .here | ((with_reducible refine Del.hereC ?_); rfl) | ((with_reducible refine Del.hereS ?_ ?_ ?_) <;> rfl) | exact .here | apply Del.there)) ?_ | refine .drop ?_)))⟩ (by omega))
        · skip
          refine gc_exit ?_
          refine gc_seq ?_
          have hb5 : ¬ EndS.bad5 f := fun ⟨k1, k2⟩ => by rw [← List.take_of_length_le (show f.data.length ≤ i by omega), ht k1] at k2; cases k2
          refine gc_draw (D := []) (fin := none) (plan := [(true, 0), (true, 1), (true, 2), (true, 3), (true, 4), (true, 5), (true, 6), (true, 7), (true, 8), (true, 9)]) rfl (by kernel_rfl) (by kernel_rfl) rfl .nil ?_
          refine gp_ev rfl (e_mv) ?_
          refine gp_ev rfl (e_nc rfl) ?_
          refine gp_ev rfl (e_fa Try.underlying68 rfl rfl Try.sizeOf3) ?_
          refine gp_ev rfl (e_ldm 7 Try.underlying3 rfl (by repeat ((conv => arg 2; whnf); first | with_reducible exact .here | ((with_reducible refine Del.hereC ?_); rfl) | ((with_reducible refine Del.hereS ?_ ?_ ?_) <;> rfl) | exact .here | apply Del.there)) rfl) ?_
          refine gp_ev rfl (e_mv) ?_
          refine gp_ev rfl (e_nc rfl) ?_
          refine gp_ev rfl (e_fa Try.underlying68 rfl rfl Try.sizeOf3) ?_
          refine gp_ev rfl (e_ldm 0 Try.underlying3 rfl (by repeat ((conv => arg 2; whnf); first | with_reducible exact .here | ((with_reducible refine Del.hereC ?_); rfl) | ((with_reducible refine Del.hereS ?_ ?_ ?_) <;> rfl) | exact .here | apply Del.there)) rfl) ?_
          refine gp_ev rfl (e_ge rfl rfl) ?_
          refine gp_ev rfl (e_as) ?_
          refine gp_nil ?_
          refine gc_seq ?_
          refine gc_seq ?_
          refine gc_cut (fun E L => E 0 = .pointer (some ⟨bl, pre.length, none⟩) ∧ E 2 = .bool dev ∧ E 3 = .int .u32 (ses : Int) ∧ E 5 = .pointer (some ⟨b5, 0, none⟩) ∧ E 10 = .bool (decide (x.watch ≤ x.since)) ∧ E 83 = .bool (decide (x.bad6 f)) ∧ ∀ w, Sat B w L → Sat B w (blk bl 68 (pre ++ (x.cells ++ post)) :: blk b5 43 (f.cells (.slice a f.data.length c)) :: A :: F)) ?_ ?_
          · skip
            refine gc_region ?_
            refine g_ev (e_fa Try.underlying43 rfl rfl Try.sizeOf4) ?_
            refine g_ev (e_ld Try.underlying4 rfl (by repeat ((conv => arg 2; whnf); first | with_reducible exact .here | ((with_reducible refine Del.hereC ?_); rfl) | ((with_reducible refine Del.hereS ?_ ?_ ?_) <;> rfl) | exact .here | apply Del.there)) rfl) ?_
            refine g_ev (e_mv) ?_
            first | refine g_dec 76 rfl (fun c76 => ?_) (fun c76 => ?_) | refine g_ndec 76 rfl (fun c76 => ?_) (fun c76 => ?_) | refine g_bool 76 rfl (fun c76 => ?_) (fun c76 => ?_)
            · skip
              refine g_ev (e_fa Try.underlying43 rfl rfl Try.sizeOf40) ?_
              refine g_ev (e_ld Try.underlying40 rfl (by repeat ((conv => arg 2; whnf); first | with_reducible exact .here | ((with_reducible refine Del.hereC ?_); rfl) | ((with_reducible refine Del.hereS ?_ ?_ ?_) <;> rfl) | exact .here | apply Del.there)) rfl) ?_
              refine g_ev (e_ne rfl rfl) ?_
              refine g_ev (e_mv) ?_
              first | refine g_dec 80 rfl (fun c80 => ?_) (fun c80 => ?_) | refine g_ndec 80 rfl (fun c80 => ?_) (fun c80 => ?_) | refine g_bool 80 rfl (fun c80 => ?_) (fun c80 => ?_)
              · skip
                refine g_not ?_
                refine g_ev (e_pk rfl) ?_
                refine g_ev (e_pk rfl) ?_
                refine g_nil ?_
                exact ⟨(by (conv => lhs; whnf); try first | rfl | (refine congrArg Value.bool ?_; simp_all) | simp_all), (by (conv => lhs; whnf); try first | rfl | (refine congrArg Value.bool ?_; simp_all) | simp_all), (by (conv => lhs; whnf); try first | rfl | (refine congrArg Value.bool ?_; simp_all) | simp_all), (by (conv => lhs; whnf); try first | rfl | (refine congrArg Value.bool ?_; simp_all) | simp_all), (by (conv => lhs; whnf); try first | rfl | (refine congrArg Value.bool ?_; simp_all) | simp_all), (by (conv => lhs; whnf); refine congrArg Value.bool ?_; rw [Bool.eq_iff_iff, decide_eq_true_iff]; clear hr; unfold REnd.bad6; first | (simp_all; done) | (simp_all; omega) | (simp; omega)), (fun _ h => h.fin (L1 := [blk bl 68 (pre ++ (x.cells ++ post)), blk b5 43 (f.cells (.slice a f.data.length c)), A]) (F := F) (by repeat ((conv => arg 1; whnf); (conv => arg 2; whnf); first | with_reducible exact .done | exact Fin.all _ | refine .cons (by repeat ((conv => arg 2; whnf); first | with_reducible exact .here | ((with_reducible refine Del.hereC ?_); rfl) | ((with_reducible refine Del.hereS ?_ ?_ ?_) <;> rfl) | exact .here | apply Del.there)) ?_ | refine .drop ?_)))⟩
              · skip
                refine g_ev (e_mv) ?_
                refine g_ev (e_pk rfl) ?_
                refine g_ev (e_pk rfl) ?_
                refine g_nil ?_
                exact ⟨(by (conv => lhs; whnf); try first | rfl | (refine congrArg Value.bool ?_; simp_all) | simp_all), (by (conv => lhs; whnf); try first | rfl | (refine congrArg Value.bool ?_; simp_all) | simp_all), (by (conv => lhs; whnf); try first | rfl | (refine congrArg Value.bool ?_; simp_all) | simp_all), (by (conv => lhs; whnf); try first | rfl | (refine congrArg Value.bool ?_; simp_all) | simp_all), (by (conv => lhs; whnf); try first | rfl | (refine congrArg Value.bool ?_; simp_all) | simp_all), (by (conv => lhs; whnf); refine congrArg Value.bool ?_; rw [Bool.eq_iff_iff, decide_eq_true_iff]; clear hr; unfold REnd.bad6; first | (simp_all; done) | (simp_all; omega) | (simp; omega)), (fun _ h => h.fin (L1 := [blk bl 68 (pre ++ (x.cells ++ post)), blk b5 43 (f.cells (.slice a f.data.length c)), A]) (F := F) (by repeat ((conv => arg 1; whnf); (conv => arg 2; whnf); first | with_reducible exact .done | exact Fin.all _ | refine .cons (by repeat ((conv => arg 2; whnf); first | with_reducible exact .here | ((with_reducible refine Del.hereC ?_); rfl) | ((with_reducible refine Del.hereS ?_ ?_ ?_) <;> rfl) | exact .here | apply Del.there)) ?_ | refine .drop ?_)))⟩
            · skip
              refine g_not ?_
              refine g_not ?_
              refine g_not ?_
              refine g_not ?_
              refine g_not ?_
              refine g_not ?_
              refine g_ev (e_pk rfl) ?_
              refine g_nil ?_
              exact ⟨(by (conv => lhs; whnf); try first | rfl | (refine congrArg Value.bool ?_; simp_all) | simp_all), (by (conv => lhs; whnf); try first | rfl | (refine congrArg Value.bool ?_; simp_all) | simp_all), (by (conv => lhs; whnf); try first | rfl | (refine congrArg Value.bool ?_; simp_all) | simp_all), (by (conv => lhs; whnf); try first | rfl | (refine congrArg Value.bool ?_; simp_all) | simp_all), (by (conv => lhs; whnf); try first | rfl | (refine congrArg Value.bool ?_; simp_all) | simp_all), (by (conv => lhs; whnf); refine congrArg Value.bool ?_; rw [Bool.eq_iff_iff, decide_eq_true_iff]; clear hr; unfold REnd.bad6; first | (simp_all; done) | (simp_all; omega) | (simp; omega)), (fun _ h => h.fin (L1 := [blk bl 68 (pre ++ (x.cells ++ post)), blk b5 43 (f.cells (.slice a f.data.length c)), A]) (F := F) (by repeat ((conv => arg 1; whnf); (conv => arg 2; whnf); first | with_reducible exact .done | exact Fin.all _ | refine .cons (by repeat ((conv => arg 2; whnf); first | with_reducible exact .here | ((with_reducible refine Del.hereC ?_); rfl) | ((with_reducible refine Del.hereS ?_ ?_ ?_) <;> rfl) | exact .here | apply Del.there)) ?_ | refine .drop ?_)))⟩
          · rintro E L ⟨s0, s2, s3, s5, s10, s83, hL⟩
            refine gc_imp hL ?_
            refine gc_slot 0 _ ?_ s0
            refine gc_slot 2 _ ?_ s2
            refine gc_slot 3 _ ?_ s3
            refine gc_slot 5 _ ?_ s5
            refine gc_slot 10 _ ?_ s10
            refine gc_slot 83 _ ?_ s83
            clear hL s0 s2 s3 s5 s10 s83
            first | refine gc_dec rfl (fun c83 => ?_) (fun c83 => ?_) | refine gc_ndec rfl (fun c83 => ?_) (fun c83 => ?_) | refine gc_cond rfl (fun c83 => ?_) (fun c83 => ?_)
            · skip
              refine gc_seq ?_
              refine gc_region ?_
              refine g_ev (e_as) ?_
              refine g_nil ?_
              refine gc_ret ?_
              exact ret1 (v := .int .i64 6) (L1 := [blk bl 68 (pre ++ (x.cells ++ post)), A]) rfl (by (conv => lhs; whnf); try rfl) ⟨by unfold REnd.out; rw [if_neg c46, if_neg hb5, if_pos c83], by unfold REnd.out; rw [if_neg c46, if_neg hb5, if_pos c83]⟩ (fun _ h => h.fin (by repeat ((conv => arg 1; whnf); (conv => arg 2; whnf); first | with_reducible exact .done | exact Fin.all _ | refine .cons (by repeat ((conv => arg 2; whnf); first | with_reducible exact .here | ((with_reducible refine Del.hereC ?_); rfl) | ((with_reducible refine Del.hereS ?_ ?_ ?_) <;> rfl) | exact .here | apply Del.there)) ?_ | refine .drop ?_)))
            · skip
              refine gc_skip ?_
              refine gc_seq ?_
              refine gc_seq ?_
              refine gc_cut (fun E L => E 0 = .pointer (some ⟨bl, pre.length, none⟩) ∧ E 2 = .bool dev ∧ E 3 = .int .u32 (ses : Int) ∧ E 5 = .pointer (some ⟨b5, 0, none⟩) ∧ E 10 = .bool (decide (x.watch ≤ x.since)) ∧ E 89 = .bool (decide (x.bad7 f)) ∧ ∀ w, Sat B w L → Sat B w (blk bl 68 (pre ++ (x.cells ++ post)) :: blk b5 43 (f.cells (.slice a f.data.length c)) :: A :: F)) ?_ ?_
              · skip
                refine gc_region ?_
                refine g_ev (e_mv) ?_
                refine g_ev (e_mv) ?_
                first | refine g_dec 85 rfl (fun c85 => ?_) (fun c85 => ?_) | refine g_ndec 85 rfl (fun c85 => ?_) (fun c85 => ?_) | refine g_bool 85 rfl (fun c85 => ?_) (fun c85 => ?_)
                · skip
                  refine g_ev (e_fa Try.underlying43 rfl rfl Try.sizeOf40) ?_
                  refine g_ev (e_ld Try.underlying40 rfl (by repeat ((conv => arg 2; whnf); first | with_reducible exact .here | ((with_reducible refine Del.hereC ?_); rfl) | ((with_reducible refine Del.hereS ?_ ?_ ?_) <;> rfl) | exact .here | apply Del.there)) rfl) ?_
                  refine g_ev (e_eq rfl rfl) ?_
                  refine g_ev (e_pk rfl) ?_
                  refine g_nil ?_
                  exact ⟨(by (conv => lhs; whnf); try first | rfl | (refine congrArg Value.bool ?_; simp_all) | simp_all), (by (conv => lhs; whnf); try first | rfl | (refine congrArg Value.bool ?_; simp_all) | simp_all), (by (conv => lhs; whnf); try first | rfl | (refine congrArg Value.bool ?_; simp_all) | simp_all), (by (conv => lhs; whnf); try first | rfl | (refine congrArg Value.bool ?_; simp_all) | simp_all), (by (conv => lhs; whnf); try first | rfl | (refine congrArg Value.bool ?_; simp_all) | simp_all), (by (conv => lhs; whnf); refine congrArg Value.bool ?_; rw [Bool.eq_iff_iff, decide_eq_true_iff]; clear hr; unfold REnd.bad7; first | (simp_all; done) | (simp_all; omega) | (simp; omega)), (fun _ h => h.fin (L1 := [blk bl 68 (pre ++ (x.cells ++ post)), blk b5 43 (f.cells (.slice a f.data.length c)), A]) (F := F) (by repeat ((conv => arg 1; whnf); (conv => arg 2; whnf); first | with_reducible exact .done | exact Fin.all _ | refine .cons (by repeat ((conv => arg 2; whnf); first | with_reducible exact .here | ((with_reducible refine Del.hereC ?_); rfl) | ((with_reducible refine Del.hereS ?_ ?_ ?_) <;> rfl) | exact .here | apply Del.there)) ?_ | refine .drop ?_)))⟩
                · skip
                  refine g_not ?_
                  refine g_not ?_
                  refine g_not ?_
                  refine g_ev (e_pk rfl) ?_
                  refine g_nil ?_
                  exact ⟨(by (conv => lhs; whnf); try first | rfl | (refine congrArg Value.bool ?_; simp_all) | simp_all), (by (conv => lhs; whnf); try first | rfl | (refine congrArg Value.bool ?_; simp_all) | simp_all), (by (conv => lhs; whnf); try first | rfl | (refine congrArg Value.bool ?_; simp_all) | simp_all), (by (conv => lhs; whnf); try first | rfl | (refine congrArg Value.bool ?_; simp_all) | simp_all), (by (conv => lhs; whnf); try first | rfl | (refine congrArg Value.bool ?_; simp_all) | simp_all), (by (conv => lhs; whnf); refine congrArg Value.bool ?_; rw [Bool.eq_iff_iff, decide_eq_true_iff]; clear hr; unfold REnd.bad7; first | (simp_all; done) | (simp_all; omega) | (simp; omega)), (fun _ h => h.fin (L1 := [blk bl 68 (pre ++ (x.cells ++ post)), blk b5 43 (f.cells (.slice a f.data.length c)), A]) (F := F) (by repeat ((conv => arg 1; whnf); (conv => arg 2; whnf); first | with_reducible exact .done | exact Fin.all _ | refine .cons (by repeat ((conv => arg 2; whnf); first | with_reducible exact .here | ((with_reducible refine Del.hereC ?_); rfl) | ((with_reducible refine Del.hereS ?_ ?_ ?_) <;> rfl) | exact .here | apply Del.there)) ?_ | refine .drop ?_)))⟩
              · rintro E L ⟨s0, s2, s3, s5, s10, s89, hL⟩
                refine gc_imp hL ?_
                refine gc_slot 0 _ ?_ s0
                refine gc_slot 2 _ ?_ s2
                refine gc_slot 3 _ ?_ s3
                refine gc_slot 5 _ ?_ s5
                refine gc_slot 10 _ ?_ s10
                refine gc_slot 89 _ ?_ s89
                clear hL s0 s2 s3 s5 s10 s89
                first | refine gc_dec rfl (fun c89 => ?_) (fun c89 => ?_) | refine gc_ndec rfl (fun c89 => ?_) (fun c89 => ?_) | refine gc_cond rfl (fun c89 => ?_) (fun c89 => ?_)
                · skip
                  refine gc_seq ?_
                  refine gc_region ?_
                  refine g_ev (e_as) ?_
                  refine g_nil ?_
                  refine gc_ret ?_
                  exact ret1 (v := .int .i64 7) (L1 := [blk bl 68 (pre ++ (x.cells ++ post)), A]) rfl (by (conv => lhs; whnf); try rfl) ⟨by unfold REnd.out; rw [if_neg c46, if_neg hb5, if_neg c83, if_pos c89], by unfold REnd.out; rw [if_neg c46, if_neg hb5, if_neg c83, if_pos c89]⟩ (fun _ h => h.fin (by repeat ((conv => arg 1; whnf); (conv => arg 2; whnf); first | with_reducible exact .done | exact Fin.all _ | refine .cons (by repeat ((conv => arg 2; whnf); first | with_reducible exact .here | ((with_reducible refine Del.hereC ?_); rfl) | ((with_reducible refine Del.hereS ?_ ?_ ?_) <;> rfl) | exact .here | apply Del.there)) ?_ | refine .drop ?_)))
                · skip
                  refine gc_skip ?_
                  refine gc_seq ?_
                  refine gc_seq ?_
                  refine gc_cut (fun E L => E 0 = .pointer (some ⟨bl, pre.length, none⟩) ∧ E 2 = .bool dev ∧ E 3 = .int .u32 (ses : Int) ∧ E 5 = .pointer (some ⟨b5, 0, none⟩) ∧ E 10 = .bool (decide (x.watch ≤ x.since)) ∧ E 106 = .bool (decide (x.bad8 f)) ∧ ∀ w, Sat B w L → Sat B w (blk bl 68 (pre ++ (x.cells ++ post)) :: blk b5 43 (f.cells (.slice a f.data.length c)) :: A :: F)) ?_ ?_
                  · skip
                    refine gc_region ?_
                    refine g_ev (e_mv) ?_
                    refine g_ev (e_nc rfl) ?_
                    refine g_ev (e_fa Try.underlying68 rfl rfl Try.sizeOf40) ?_
                    refine g_ev (e_ldm 8 Try.underlying40 rfl (by repeat ((conv => arg 2; whnf); first | with_reducible exact .here | ((with_reducible refine Del.hereC ?_); rfl) | ((with_reducible refine Del.hereS ?_ ?_ ?_) <;> rfl) | exact .here | apply Del.there)) rfl) ?_
                    refine g_ev (e_ne rfl rfl) ?_
                    refine g_ev (e_mv) ?_
                    first | refine g_dec 95 rfl (fun c95 => ?_) (fun c95 => ?_) | refine g_ndec 95 rfl (fun c95 => ?_) (fun c95 => ?_) | refine g_bool 95 rfl (fun c95 => ?_) (fun c95 => ?_)
                    · skip
                      refine g_ev (e_fa Try.underlying43 rfl rfl Try.sizeOf40) ?_
                      refine g_ev (e_ld Try.underlying40 rfl (by repeat ((conv => arg 2; whnf); first | with_reducible exact .here | ((with_reducible refine Del.hereC ?_); rfl) | ((with_reducible refine Del.hereS ?_ ?_ ?_) <;> rfl) | exact .here | apply Del.there)) rfl) ?_
                      refine g_ev (e_eq rfl rfl) ?_
                      refine g_ev (e_pk rfl) ?_
                      refine g_ev (e_mv) ?_
                      first | refine g_dec 100 rfl (fun c100 => ?_) (fun c100 => ?_) | refine g_ndec 100 rfl (fun c100 => ?_) (fun c100 => ?_) | refine g_bool 100 rfl (fun c100 => ?_) (fun c100 => ?_)
                      · skip
                        refine g_ev (e_mv) ?_
                        refine g_ev (e_nc rfl) ?_
                        refine g_ev (e_fa Try.underlying68 rfl rfl Try.sizeOf4) ?_
                        refine g_ev (e_ldm 10 Try.underlying4 rfl (by repeat ((conv => arg 2; whnf); first | with_reducible exact .here | ((with_reducible refine Del.hereC ?_); rfl) | ((with_reducible refine Del.hereS ?_ ?_ ?_) <;> rfl) | exact .here | apply Del.there)) rfl) ?_
                        refine g_ev (e_not' rfl) ?_
                        refine g_ev (e_pk rfl) ?_
                        refine g_nil ?_
                        exact ⟨(by (conv => lhs; whnf); try first | rfl | (refine congrArg Value.bool ?_; simp_all) | simp_all), (by (conv => lhs; whnf); try first | rfl | (refine congrArg Value.bool ?_; simp_all) | simp_all), (by (conv => lhs; whnf); try first | rfl | (refine congrArg Value.bool ?_; simp_all) | simp_all), (by (conv => lhs; whnf); try first | rfl | (refine congrArg Value.bool ?_; simp_all) | simp_all), (by (conv => lhs; whnf); try first | rfl | (refine congrArg Value.bool ?_; simp_all) | simp_all), (by (conv => lhs; whnf); refine congrArg Value.bool ?_; rw [Bool.eq_iff_iff, decide_eq_true_iff]; clear hr; unfold REnd.bad8; first | (simp_all; done) | (simp_all; omega) | (simp; omega)), (fun _ h => h.fin (L1 := [blk bl 68 (pre ++ (x.cells ++ post)), blk b5 43 (f.cells (.slice a f.data.length c)), A]) (F := F) (by repeat ((conv => arg 1; whnf); (conv => arg 2; whnf); first | with_reducible exact .done | exact Fin.all _ | refine .cons (by repeat ((conv => arg 2; whnf); first | with_reducible exact .here | ((with_reducible refine Del.hereC ?_); rfl) | ((with_reducible refine Del.hereS ?_ ?_ ?_) <;> rfl) | exact .here | apply Del.there)) ?_ | refine .drop ?_)))⟩
                      · skip
                        refine g_not ?_
                        refine g_not ?_
                        refine g_not ?_
                        refine g_not ?_
                        refine g_not ?_
                        refine g_ev (e_pk rfl) ?_
                        refine g_nil ?_
                        exact ⟨(by (conv => lhs; whnf); try first | rfl | (refine congrArg Value.bool ?_; simp_all) | simp_all), (by (conv => lhs; whnf); try first | rfl | (refine congrArg Value.bool ?_; simp_all) | simp_all), (by (conv => lhs; whnf); try first | rfl | (refine congrArg Value.bool ?_; simp_all) | simp_all), (by (conv => lhs; whnf); try first | rfl | (refine congrArg Value.bool ?_; simp_all) | simp_all), (by (conv => lhs; whnf); try first | rfl | (refine congrArg Value.bool ?_; simp_all) | simp_all), (by (conv => lhs; whnf); refine congrArg Value.bool ?_; rw [Bool.eq_iff_iff, decide_eq_true_iff]; clear hr; unfold REnd.bad8; first | (simp_all; done) | (simp_all; omega) | (simp; omega)), (fun _ h => h.fin (L1 := [blk bl 68 (pre ++ (x.cells ++ post)), blk b5 43 (f.cells (.slice a f.data.length c)), A]) (F := F) (by repeat ((conv => arg 1; whnf); (conv => arg 2; whnf); first | with_reducible exact .done | exact Fin.all _ | refine .cons (by repeat ((conv => arg 2; whnf); first | with_reducible exact .here | ((with_reducible refine Del.hereC ?_); rfl) | ((with_reducible refine Del.hereS ?_ ?_ ?_) <;> rfl) | exact .here | apply Del.there)) ?_ | refine .drop ?_)))⟩
                    · skip
                      refine g_not ?_
                      refine g_not ?_
                      refine g_not ?_
                      refine g_ev (e_pk rfl) ?_
                      refine g_ev (e_mv) ?_
                      refine g_not ?_
                      refine g_not ?_
                      refine g_not ?_
                      refine g_not ?_
                      refine g_not ?_
                      refine g_ev (e_pk rfl) ?_
                      refine g_nil ?_
                      exact ⟨(by (conv => lhs; whnf); try first | rfl | (refine congrArg Value.bool ?_; simp_all) | simp_all), (by (conv => lhs; whnf); try first | rfl | (refine congrArg Value.bool ?_; simp_all) | simp_all), (by (conv => lhs; whnf); try first | rfl | (refine congrArg Value.bool ?_; simp_all) | simp_all), (by (conv => lhs; whnf); try first | rfl | (refine congrArg Value.bool ?_; simp_all) | simp_all), (by (conv => lhs; whnf); try first | rfl | (refine congrArg Value.bool ?_; simp_all) | simp_all), (by (conv => lhs; whnf); refine congrArg Value.bool ?_; rw [Bool.eq_iff_iff, decide_eq_true_iff]; clear hr; unfold REnd.bad8; first | (simp_all; done) | (simp_all; omega) | (simp; omega)), (fun _ h => h.fin (L1 := [blk bl 68 (pre ++ (x.cells ++ post)), blk b5 43 (f.cells (.slice a f.data.length c)), A]) (F := F) (by repeat ((conv => arg 1; whnf); (conv => arg 2; whnf); first | with_reducible exact .done | exact Fin.all _ | refine .cons (by repeat ((conv => arg 2; whnf); first | with_reducible exact .here | ((with_reducible refine Del.hereC ?_); rfl) | ((with_reducible refine Del.hereS ?_ ?_ ?_) <;> rfl) | exact .here | apply Del.there)) ?_ | refine .drop ?_)))⟩
                  · rintro E L ⟨s0, s2, s3, s5, s10, s106, hL⟩
                    refine gc_imp hL ?_
                    refine gc_slot 0 _ ?_ s0
                    refine gc_slot 2 _ ?_ s2
                    refine gc_slot 3 _ ?_ s3
                    refine gc_slot 5 _ ?_ s5
                    refine gc_slot 10 _ ?_ s10
                    refine gc_slot 106 _ ?_ s106
                    clear hL s0 s2 s3 s5 s10 s106
                    first | refine gc_dec rfl (fun c106 => ?_) (fun c106 => ?_) | refine gc_ndec rfl (fun c106 => ?_) (fun c106 => ?_) | refine gc_cond rfl (fun c106 => ?_) (fun c106 => ?_)
                    · skip
                      refine gc_seq ?_
                      refine gc_region ?_
                      refine g_ev (e_as) ?_
                      refine g_nil ?_
                      refine gc_ret ?_
                      exact ret1 (v := .int .i64 8) (L1 := [blk bl 68 (pre ++ (x.cells ++ post)), A]) rfl (by (conv => lhs; whnf); try rfl) ⟨by unfold REnd.out; rw [if_neg c46, if_neg hb5, if_neg c83, if_neg c89, if_pos c106], by unfold REnd.out; rw [if_neg c46, if_neg hb5, if_neg c83, if_neg c89, if_pos c106]⟩ (fun _ h => h.fin (by repeat ((conv => arg 1; whnf); (conv => arg 2; whnf); first | with_reducible exact .done | exact Fin.all _ | refine .cons (by repeat ((conv => arg 2; whnf); first | with_reducible exact .here | ((with_reducible refine Del.hereC ?_); rfl) | ((with_reducible refine Del.hereS ?_ ?_ ?_) <;> rfl) | exact .here | apply Del.there)) ?_ | refine .drop ?_)))
                    · skip
                      refine gc_skip ?_
                      refine gc_seq ?_
                      refine gc_seq ?_
                      refine gc_draw (D := []) (fin := none) (plan := [(true, 0), (true, 1), (true, 2), (true, 3), (true, 4), (true, 5), (true, 6)]) rfl (by kernel_rfl) (by kernel_rfl) rfl .nil ?_
                      refine gp_ev rfl (e_fa Try.underlying43 rfl rfl Try.sizeOf40) ?_
                      refine gp_ev rfl (e_ld Try.underlying40 rfl (by repeat ((conv => arg 2; whnf); first | with_reducible exact .here | ((with_reducible refine Del.hereC ?_); rfl) | ((with_reducible refine Del.hereS ?_ ?_ ?_) <;> rfl) | exact .here | apply Del.there)) rfl) ?_
                      refine gp_ev rfl (e_mv) ?_
                      refine gp_ev rfl (e_nc rfl) ?_
                      refine gp_ev rfl (e_fa Try.underlying68 rfl rfl Try.sizeOf40) ?_
                      refine gp_ev rfl (e_ldm 8 Try.underlying40 rfl (by repeat ((conv => arg 2; whnf); first | with_reducible exact .here | ((with_reducible refine Del.hereC ?_); rfl) | ((with_reducible refine Del.hereS ?_ ?_ ?_) <;> rfl) | exact .here | apply Del.there)) rfl) ?_
                      refine gp_ev rfl (e_ne rfl rfl) ?_
                      refine gp_nil ?_
                      first | refine gc_dec rfl (fun c113 => ?_) (fun c113 => ?_) | refine gc_ndec rfl (fun c113 => ?_) (fun c113 => ?_) | refine gc_cond rfl (fun c113 => ?_) (fun c113 => ?_)
                      · skip
                        refine gc_region ?_
                        refine g_ev (e_mv) ?_
                        refine g_ev (e_nc rfl) ?_
                        refine g_ev (e_fa Try.underlying68 rfl rfl Try.sizeOf4) ?_
                        refine g_eff (s_stm 9 Try.sizeOf4 rfl (by repeat ((conv => arg 3; whnf); first | with_reducible exact .here | apply Turn.there))) ?_
                        rintro _ _ ⟨rfl, rfl⟩
                        refine g_nil ?_
                        refine gc_seq ?_
                        refine gc_region ?_
                        refine g_ev (e_mv) ?_
                        refine g_ev (e_fa Try.underlying43 rfl rfl Try.sizeOf40) ?_
                        refine g_ev (e_ld Try.underlying40 rfl (by repeat ((conv => arg 2; whnf); first | with_reducible exact .here | ((with_reducible refine Del.hereC ?_); rfl) | ((with_reducible refine Del.hereS ?_ ?_ ?_) <;> rfl) | exact .here | apply Del.there)) rfl) ?_
                        refine g_ev (e_nc rfl) ?_
                        refine g_ev (e_fa Try.underlying68 rfl rfl Try.sizeOf40) ?_
                        refine g_eff (s_stm 8 Try.sizeOf40 rfl (by repeat ((conv => arg 3; whnf); first | with_reducible exact .here | apply Turn.there))) ?_
                        rintro _ _ ⟨rfl, rfl⟩
                        refine g_nil ?_
                        refine gc_seq ?_
                        refine gc_region ?_
                        refine g_ev (e_mv) ?_
                        refine g_ev (e_nc rfl) ?_
                        refine g_ev (e_fa Try.underlying68 rfl rfl Try.sizeOf4) ?_
                        refine g_eff (s_stm 10 Try.sizeOf4 rfl (by repeat ((conv => arg 3; whnf); first | with_reducible exact .here | apply Turn.there))) ?_
                        rintro _ _ ⟨rfl, rfl⟩
                        refine g_nil ?_
                        refine gc_seq ?_
                        refine gc_region ?_
                        refine g_ev (e_as) ?_
                        refine g_nil ?_
                        refine gc_ret ?_
                        have hx : x.out f dev ses = (0, ({ x with fresh := false, latched := f.code, acked := false } : REnd)) := by unfold REnd.out; rw [if_neg c46, if_neg hb5, if_neg c83, if_neg c89, if_neg c106]; unfold REnd.outE; rw [if_pos c113]
                        exact ret1 (v := .int .i64 0) (L1 := [blk bl 68 (pre ++ (({ x with fresh := false, latched := f.code, acked := false } : REnd).cells ++ post)), A]) rfl (by (conv => lhs; whnf); try rfl) ⟨by rw [hx], by rw [hx]⟩ (fun _ h => h.fin (by repeat ((conv => arg 1; whnf); (conv => arg 2; whnf); first | with_reducible exact .done | exact Fin.all _ | refine .cons (by repeat ((conv => arg 2; whnf); first | with_reducible exact .here | ((with_reducible refine Del.hereC ?_); rfl) | ((with_reducible refine Del.hereS ?_ ?_ ?_) <;> rfl) | exact .here | apply Del.there)) ?_ | refine .drop ?_)))
                      · skip
                        refine gc_skip ?_
                        refine gc_seq ?_
                        refine gc_region ?_
                        refine g_ev (e_mv) ?_
                        refine g_ev (e_fa Try.underlying43 rfl rfl Try.sizeOf40) ?_
                        refine g_ev (e_ld Try.underlying40 rfl (by repeat ((conv => arg 2; whnf); first | with_reducible exact .here | ((with_reducible refine Del.hereC ?_); rfl) | ((with_reducible refine Del.hereS ?_ ?_ ?_) <;> rfl) | exact .here | apply Del.there)) rfl) ?_
                        refine g_ev (e_nc rfl) ?_
                        refine g_ev (e_fa Try.underlying68 rfl rfl Try.sizeOf40) ?_
                        refine g_eff (s_stm 8 Try.sizeOf40 rfl (by repeat ((conv => arg 3; whnf); first | with_reducible exact .here | apply Turn.there))) ?_
                        rintro _ _ ⟨rfl, rfl⟩
                        refine g_nil ?_
                        refine gc_seq ?_
                        refine gc_region ?_
                        refine g_ev (e_mv) ?_
                        refine g_ev (e_nc rfl) ?_
                        refine g_ev (e_fa Try.underlying68 rfl rfl Try.sizeOf4) ?_
                        refine g_eff (s_stm 10 Try.sizeOf4 rfl (by repeat ((conv => arg 3; whnf); first | with_reducible exact .here | apply Turn.there))) ?_
                        rintro _ _ ⟨rfl, rfl⟩
                        refine g_nil ?_
                        refine gc_seq ?_
                        refine gc_region ?_
                        refine g_ev (e_as) ?_
                        refine g_nil ?_
                        refine gc_ret ?_
                        have hx : x.out f dev ses = (0, ({ x with fresh := x.fresh, latched := f.code, acked := false } : REnd)) := by unfold REnd.out; rw [if_neg c46, if_neg hb5, if_neg c83, if_neg c89, if_neg c106]; unfold REnd.outE; rw [if_neg (by simpa using c113)]
                        exact ret1 (v := .int .i64 0) (L1 := [blk bl 68 (pre ++ (({ x with fresh := x.fresh, latched := f.code, acked := false } : REnd).cells ++ post)), A]) rfl (by (conv => lhs; whnf); try rfl) ⟨by rw [hx], by rw [hx]⟩ (fun _ h => h.fin (by repeat ((conv => arg 1; whnf); (conv => arg 2; whnf); first | with_reducible exact .done | exact Fin.all _ | refine .cons (by repeat ((conv => arg 2; whnf); first | with_reducible exact .here | ((with_reducible refine Del.hereC ?_); rfl) | ((with_reducible refine Del.hereS ?_ ?_ ?_) <;> rfl) | exact .here | apply Del.there)) ?_ | refine .drop ?_)))

end Go.Proofs.Ythjimddhnlmlhaa
