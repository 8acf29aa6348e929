/- What each function of the cell and of its reference computes, one theorem each; no conditions. -/
import Derived.Test.YtpknnbkdkmogeaaMem
import Derived.Test.YtpknnbkdkmogeaaVc
namespace Go.Proofs.Ytpknnbkdkmogeaa
open Go.Vc
theorem pl47 : plOK Try.prog 47 #[(0, 1), (1, 1), (2, 1), (3, 1), (4, 1)] := by intro fs h w; rw [Try.underlying47] at h; cases h; simp
theorem pl51 : plOK Try.prog 51 #[(0, 1), (1, 1), (2, 1), (3, 1)] := by intro fs h w; rw [Try.underlying51] at h; cases h; simp
theorem pl77 : plOK Try.prog 77 #[(0, 1), (1, 1), (2, 1), (3, 1)] := by intro fs h w; rw [Try.underlying77] at h; cases h; simp

def MemS.by (s : MemS) (j : Nat) : Nat := (s.bs.getD j 0).toNat
theorem MemS.by_lt (s : MemS) (j : Nat) : s.by j < 256 := UInt8.toNat_lt _
theorem MemS.by_get {s : MemS} {j : Nat} (h : j < s.bs.length) : (bv s.bs)[j]? = some (.int .u8 (s.by j : Int)) := by simp [bv, MemS.by, h]
def MemS.wp (s : MemS) (k : Nat) : Nat → Nat
  | 0 => 0
  | i + 1 => s.wp k i * 2 ^ 8 + s.by (5 * k + 1 + i)
def MemS.word (s : MemS) (k : Nat) : Nat := s.wp k 4
theorem MemS.wp_lt (s : MemS) (k : Nat) : ∀ i, s.wp k i < 2 ^ (8 * i)
  | 0 => by simp [MemS.wp]
  | i + 1 => by
    have h1 := s.wp_lt k i
    have h2 := s.by_lt (5 * k + 1 + i)
    show s.wp k i * 2 ^ 8 + s.by (5 * k + 1 + i) < 2 ^ (8 * (i + 1))
    rw [Nat.mul_add, Nat.pow_add]
    omega
theorem MemS.wp_b {s : MemS} {k i : Nat} (h : i ≤ 4) : s.wp k i < 4294967296 := by
  have h1 := s.wp_lt k i
  have h2 : 2 ^ (8 * i) ≤ 2 ^ 32 := Nat.pow_le_pow_right (by decide) (by omega)
  have h3 : (2 : Nat) ^ 32 = 4294967296 := by simp
  omega
theorem MemS.wp_s {s : MemS} {k i : Nat} (h : i ≤ 3) : s.wp k i * 2 ^ 8 < 4294967296 :=
  Nat.lt_of_le_of_lt (Nat.le_add_right _ (s.by (5 * k + 1 + i))) (s.wp_b (k := k) (i := i + 1) (Nat.succ_le_succ h))
def refM (b : Nat) (s : MemS) (v : Value) : List HProp := [blk b 47 [v, .bool s.off, .bool s.armed, .int .i64 s.left, .int .i64 s.writes], sown 5 1 v s.bs.length (bv s.bs)]
def refP (b : Nat) (s : MemS) : HProp := exL (refM b s)

theorem read_off (b : Nat) (s : MemS) (i : Int) (ho : s.off = true) : Tri Try.prog 40 #[.pointer (some ⟨b, 0, none⟩), .int .i64 i] [memP b s] (isR (.tuple #[.int .u8 0, .int .i64 70]) [memP b s]) := by
  refine tri_of Try.call40 Try.func40 rfl fun B F => ?_
  refine gc_open (memM b s) .here (fun _ h => h) (fun bsl => ?_)
  refine gc_fact (φ := slV bsl s.bs.length) (fun w h => (h.rds (.there .here)).slv) fun ⟨sl, cp, hsl, hnl, hni⟩ => ?_
  subst hsl
  refine gc_seq ?_
  refine gc_region ?_
  refine g_ev (e_as) ?_
  refine g_ev (e_as) ?_
  refine g_nil ?_
  refine gc_seq ?_
  refine gc_block ?_
  refine gc_seq ?_
  refine gc_region ?_
  refine g_ev (e_mv) ?_
  refine g_ev (e_eqp Try.underlying26 rfl rfl) ?_
  refine g_ev (e_as) ?_
  refine g_nil ?_
  refine gc_false ?_
  refine gc_seq ?_
  refine gc_region ?_
  refine g_ev (e_mv) ?_
  refine g_ev (e_nc rfl) ?_
  refine g_ev (e_fa Try.underlying69 rfl rfl Try.sizeOf67) ?_
  refine g_eff (s_call (bload_t (b := b) (off := 1) rfl) (.cons (by repeat ((conv => arg 2; whnf); first | with_reducible exact .here | ((with_reducible refine Del.hereC ?_); rfl) | ((with_reducible refine Del.hereS ?_ ?_ ?_) <;> rfl) | exact .here | apply Del.there)) (.nil))) ?_
  rintro _ _ ⟨_, ⟨rfl, rfl⟩, rfl⟩
  refine g_ev (e_as) ?_
  refine g_nil ?_
  first | refine gc_dec rfl (fun c9 => ?_) (fun c9 => ?_) | refine gc_ndec rfl (fun c9 => ?_) (fun c9 => ?_) | refine gc_cond rfl (fun c9 => ?_) (fun c9 => ?_)
  · skip
    refine gc_seq ?_
    refine gc_region ?_
    refine g_ev (e_as) ?_
    refine g_ev (e_as) ?_
    refine g_nil ?_
    refine gc_ret ?_
    exact (ret2 (L1 := [memP b s]) rfl (by (conv => lhs; whnf); try rfl) (by (conv => lhs; whnf); try rfl) ⟨rfl, rfl⟩ (fun _ h => h.fin (.fold (M := memM b s _) (fun _ h => ⟨_, h⟩) (by repeat ((conv => arg 1; whnf); (conv => arg 2; whnf); first | with_reducible exact .done | exact Fin.all _ | refine .cons (by repeat ((conv => arg 2; whnf); first | with_reducible exact .here | ((with_reducible refine Del.hereC ?_); rfl) | ((with_reducible refine Del.hereS ?_ ?_ ?_) <;> rfl) | exact .here | apply Del.there)) ?_ | refine .drop ?_)))))
  · rw [ho] at c9; cases c9

theorem read_on (b : Nat) (s : MemS) (q : Nat) (hq : q < s.bs.length) (ho : s.off = false) : Tri Try.prog 40 #[.pointer (some ⟨b, 0, none⟩), .int .i64 (q : Int)] [memP b s] (isR (.tuple #[.int .u8 ((s.by q : Nat) : Int), .int .i64 0]) [memP b s]) := by
  refine tri_of Try.call40 Try.func40 rfl fun B F => ?_
  refine gc_open (memM b s) .here (fun _ h => h) (fun bsl => ?_)
  refine gc_fact (φ := slV bsl s.bs.length) (fun w h => (h.rds (.there .here)).slv) fun ⟨sl, cp, hsl, hnl, hni⟩ => ?_
  subst hsl
  refine gc_seq ?_
  refine gc_region ?_
  refine g_ev (e_as) ?_
  refine g_ev (e_as) ?_
  refine g_nil ?_
  refine gc_seq ?_
  refine gc_block ?_
  refine gc_seq ?_
  refine gc_region ?_
  refine g_ev (e_mv) ?_
  refine g_ev (e_eqp Try.underlying26 rfl rfl) ?_
  refine g_ev (e_as) ?_
  refine g_nil ?_
  refine gc_false ?_
  refine gc_seq ?_
  refine gc_region ?_
  refine g_ev (e_mv) ?_
  refine g_ev (e_nc rfl) ?_
  refine g_ev (e_fa Try.underlying69 rfl rfl Try.sizeOf67) ?_
  refine g_eff (s_call (bload_t (b := b) (off := 1) rfl) (.cons (by repeat ((conv => arg 2; whnf); first | with_reducible exact .here | ((with_reducible refine Del.hereC ?_); rfl) | ((with_reducible refine Del.hereS ?_ ?_ ?_) <;> rfl) | exact .here | apply Del.there)) (.nil))) ?_
  rintro _ _ ⟨_, ⟨rfl, rfl⟩, rfl⟩
  refine g_ev (e_as) ?_
  refine g_nil ?_
  first | refine gc_dec rfl (fun c9 => ?_) (fun c9 => ?_) | refine gc_ndec rfl (fun c9 => ?_) (fun c9 => ?_) | refine gc_cond rfl (fun c9 => ?_) (fun c9 => ?_)
  · rw [ho] at c9; exact absurd rfl c9
  · skip
    refine gc_seq ?_
    refine gc_region ?_
    refine g_ev (e_mv) ?_
    refine g_ev (e_lt rfl rfl) ?_
    refine g_ev (e_mv) ?_
    first | refine g_dec 17 rfl (fun c17 => ?_) (fun c17 => ?_) | refine g_ndec 17 rfl (fun c17 => ?_) (fun c17 => ?_) | refine g_bool 17 rfl (fun c17 => ?_) (fun c17 => ?_)
    · omega
    · skip
      refine g_ev (e_mv) ?_
      refine g_ev (e_mv) ?_
      refine g_ev (e_nc rfl) ?_
      refine g_ev (e_fa Try.underlying69 rfl rfl Try.sizeOf22) ?_
      refine g_ev (e_ld Try.underlying22 rfl (by repeat ((conv => arg 2; whnf); first | with_reducible exact .here | ((with_reducible refine Del.hereC ?_); rfl) | ((with_reducible refine Del.hereS ?_ ?_ ?_) <;> rfl) | exact .here | apply Del.there)) rfl) ?_
      refine g_ev (e_len Try.underlying22 rfl) ?_
      refine g_ev (e_ge rfl rfl) ?_
      refine g_ev (e_pk rfl) ?_
      refine g_ev (e_as) ?_
      refine g_nil ?_
      first | refine gc_dec rfl (fun c14 => ?_) (fun c14 => ?_) | refine gc_ndec rfl (fun c14 => ?_) (fun c14 => ?_) | refine gc_cond rfl (fun c14 => ?_) (fun c14 => ?_)
      · omega
      · skip
        refine gc_skip ?_
        refine gc_seq ?_
        refine gc_region ?_
        refine g_ev (e_mv) ?_
        refine g_ev (e_nc rfl) ?_
        refine g_ev (e_fa Try.underlying69 rfl rfl Try.sizeOf22) ?_
        refine g_ev (e_ld Try.underlying22 rfl (by repeat ((conv => arg 2; whnf); first | with_reducible exact .here | ((with_reducible refine Del.hereC ?_); rfl) | ((with_reducible refine Del.hereS ?_ ?_ ?_) <;> rfl) | exact .here | apply Del.there)) rfl) ?_
        refine g_ev (e_mv) ?_
        refine g_own (m := s.bs.length) (v := .slice sl s.bs.length cp) (e := 5) (k := 1) (xs := bv s.bs) (by omega) (by repeat ((conv => arg 2; whnf); first | with_reducible exact .here | ((with_reducible refine Del.hereC ?_); rfl) | ((with_reducible refine Del.hereS ?_ ?_ ?_) <;> rfl) | exact .here | apply Del.there)) fun b1 cap rest hv hv1 hv2 hv3 hv4 => ?_
        cases hv
        refine g_ev (e_ia Try.underlying22 Try.sizeOf5 rfl rfl (q := q) rfl (by omega)) ?_
        refine g_ev (e_ld (v := .int .u8 ((s.by q : Nat) : Int)) Try.underlying5 rfl (by repeat ((conv => arg 2; whnf); first | with_reducible exact .here | ((with_reducible refine Del.hereC ?_); rfl) | ((with_reducible refine Del.hereS ?_ ?_ ?_) <;> rfl) | exact .here | apply Del.there)) (by rw [List.getElem?_append_left (by rw [bv_len]; omega)]; simpa using MemS.by_get hq)) ?_
        refine g_ev (e_as) ?_
        refine g_ev (e_as) ?_
        refine g_nil ?_
        refine gc_ret ?_
        exact (ret2 (L1 := [memP b s]) rfl (by (conv => lhs; whnf); try rfl) (by (conv => lhs; whnf); try rfl) ⟨rfl, rfl⟩ (fun _ h => h.fin (.fold (M := memM b s (.slice (some ⟨b1, 0, none⟩) s.bs.length cp)) (fun _ h => ⟨_, h⟩) (.cons (by first | (rw [hset]; repeat ((conv => arg 2; whnf); first | with_reducible exact .here | ((with_reducible refine Del.hereC ?_); rfl) | ((with_reducible refine Del.hereS ?_ ?_ ?_) <;> rfl) | exact .here | apply Del.there)) | repeat ((conv => arg 2; whnf); first | with_reducible exact .here | ((with_reducible refine Del.hereC ?_); rfl) | ((with_reducible refine Del.hereS ?_ ?_ ?_) <;> rfl) | exact .here | apply Del.there)) (.fold (M := [blk b1 5 (bv s.bs ++ rest)]) (own_fold (rest := rest) rfl (by simp [bv]) (by omega) (by omega) (by rw [← hv4])) (.cons (by first | (rw [hset]; repeat ((conv => arg 2; whnf); first | with_reducible exact .here | ((with_reducible refine Del.hereC ?_); rfl) | ((with_reducible refine Del.hereS ?_ ?_ ?_) <;> rfl) | exact .here | apply Del.there)) | repeat ((conv => arg 2; whnf); first | with_reducible exact .here | ((with_reducible refine Del.hereC ?_); rfl) | ((with_reducible refine Del.hereS ?_ ?_ ?_) <;> rfl) | exact .here | apply Del.there)) (.cons (by first | (rw [hset]; repeat ((conv => arg 2; whnf); first | with_reducible exact .here | ((with_reducible refine Del.hereC ?_); rfl) | ((with_reducible refine Del.hereS ?_ ?_ ?_) <;> rfl) | exact .here | apply Del.there)) | repeat ((conv => arg 2; whnf); first | with_reducible exact .here | ((with_reducible refine Del.hereC ?_); rfl) | ((with_reducible refine Del.hereS ?_ ?_ ?_) <;> rfl) | exact .here | apply Del.there)) .done)))))))

theorem cread_on (b : Nat) (s : MemS) (k : Nat) (hk : 5 * k + 4 < s.bs.length) (hm : s.bs.length ≤ 4096) (ho : s.off = false) : Tri Try.prog 29 #[.pointer (some ⟨b, 0, none⟩), .int .i64 (k : Int)] [memP b s] (isR (.tuple #[.int .u8 ((s.by (5 * k) : Nat) : Int), .int .u32 ((s.word k : Nat) : Int), .int .i64 0]) [memP b s]) := by
  refine tri_of Try.call29 Try.func29 rfl fun B F => ?_
  refine gc_seq ?_
  refine gc_region ?_
  refine g_ev (e_as) ?_
  refine g_ev (e_as) ?_
  refine g_ev (e_as) ?_
  refine g_nil ?_
  refine gc_seq ?_
  refine gc_region ?_
  refine g_ev (e_mv) ?_
  refine g_ev (e_mv) ?_
  refine g_ev ((e_mulw rfl rfl).to (v' := .int .i64 ((5 * k : Nat) : Int)) (congrArg _ (wrapN (by omega) (by omega)))) ?_
  refine g_eff (s_call (read_on b s (5 * k) (by omega) ho) (.cons (by repeat ((conv => arg 2; whnf); first | with_reducible exact .here | ((with_reducible refine Del.hereC ?_); rfl) | ((with_reducible refine Del.hereS ?_ ?_ ?_) <;> rfl) | exact .here | apply Del.there)) (.nil))) ?_
  rintro _ _ ⟨_, ⟨rfl, rfl⟩, rfl⟩
  refine g_ev (e_mv) ?_
  refine g_ev (e_ex rfl) ?_
  refine g_ev (e_ex rfl) ?_
  refine g_ev (e_as) ?_
  refine g_ev (e_as) ?_
  refine g_nil ?_
  refine gc_seq ?_
  refine gc_region ?_
  refine g_ev (e_as) ?_
  refine g_nil ?_
  refine gc_seq ?_
  refine gc_seq ?_
  refine gc_region ?_
  refine g_ev (e_mv) ?_
  refine g_nil ?_
  refine gc_block ?_
  refine gl_start ?_
  refine gl_round ?_
  refine gc_seq ?_
  refine gc_region ?_
  refine g_ev (e_lt rfl rfl) ?_
  refine g_nil ?_
  refine gc_seq ?_
  refine gc_true ?_ (hc := by first | ((conv => lhs; whnf); done) | ((conv => lhs; whnf); rfl))
  refine gc_skip ?_
  refine gc_seq ?_
  refine gc_block ?_
  refine gc_seq ?_
  refine gc_region ?_
  refine g_ev (e_mv) ?_
  refine g_ev (e_as) ?_
  refine g_nil ?_
  refine gc_seq ?_
  refine gc_region ?_
  refine g_ev (e_mv) ?_
  refine g_ev (e_mv) ?_
  refine g_ev ((e_mulw rfl rfl).to (v' := .int .i64 ((5 * k : Nat) : Int)) (congrArg _ (wrapN (by omega) (by omega)))) ?_
  refine g_ev ((e_addw rfl rfl).to (v' := .int .i64 ((5 * k + 1 : Nat) : Int)) (congrArg _ (wrapN (by omega) (by omega)))) ?_
  refine g_ev (e_mv) ?_
  refine g_ev ((e_addw rfl rfl).to (v' := .int .i64 ((5 * k + 1 + 0 : Nat) : Int)) (congrArg _ (wrapN (by omega) (by omega)))) ?_
  refine g_eff (s_call (read_on b s (5 * k + 1 + 0) (by omega) ho) (.cons (by repeat ((conv => arg 2; whnf); first | with_reducible exact .here | ((with_reducible refine Del.hereC ?_); rfl) | ((with_reducible refine Del.hereS ?_ ?_ ?_) <;> rfl) | exact .here | apply Del.there)) (.nil))) ?_
  rintro _ _ ⟨_, ⟨rfl, rfl⟩, rfl⟩
  refine g_ev (e_mv) ?_
  refine g_ev (e_ex rfl) ?_
  refine g_ev (e_ex rfl) ?_
  refine g_ev (e_as) ?_
  refine g_ev (e_as) ?_
  refine g_nil ?_
  refine gc_seq ?_
  refine gc_seq ?_
  refine gc_region ?_
  refine g_ev (e_mv) ?_
  refine g_ev (e_eq rfl rfl) ?_
  refine g_nil ?_
  first | refine gc_dec rfl (fun c34_0 => ?_) (fun c34_0 => ?_) | refine gc_ndec rfl (fun c34_0 => ?_) (fun c34_0 => ?_) | refine gc_cond rfl (fun c34_0 => ?_) (fun c34_0 => ?_)
  · skip
    refine gc_region ?_
    refine g_ev (e_mv) ?_
    refine g_ev (e_as) ?_
    refine g_nil ?_
    refine gc_region ?_
    refine g_ev (e_mv) ?_
    refine g_ev ((e_shl rfl rfl (by decide)).to (v' := .int .u32 ((s.wp k 0 * 2 ^ 8 : Nat) : Int)) (congrArg _ (wrapU (by first | rfl | (rw [Int.natCast_mul]; done) | (rw [Int.natCast_mul]; rfl) | simp [MemS.wp]) (MemS.wp_s (by decide))))) ?_
    refine g_ev (e_mv) ?_
    refine g_ev ((e_cv Try.underlying5 Try.underlying35 rfl).to (v' := .int .u32 ((s.by (5 * k + 1 + 0) : Nat) : Int)) (congrArg _ (wrapU rfl (Nat.lt_trans (s.by_lt _) (by decide))))) ?_
    refine g_ev ((e_or rfl rfl).to (v' := .int .u32 ((s.wp k 1 : Nat) : Int)) (congrArg _ (or32 (a := s.wp k 0) (k := 8) rfl rfl (s.by_lt _) (s.wp_b (i := 1) (by decide))))) ?_
    refine g_ev (e_as) ?_
    refine g_nil ?_
    refine gc_region ?_
    refine g_ev ((e_addw rfl rfl).to (v' := .int .i64 (1 : Int)) rfl) ?_
    refine g_ev (e_mv) ?_
    refine g_nil ?_
    refine gl_round ?_
    refine gc_seq ?_
    refine gc_region ?_
    refine g_ev (e_lt rfl rfl) ?_
    refine g_nil ?_
    refine gc_seq ?_
    refine gc_true ?_ (hc := by first | ((conv => lhs; whnf); done) | ((conv => lhs; whnf); rfl))
    refine gc_skip ?_
    refine gc_seq ?_
    refine gc_block ?_
    refine gc_seq ?_
    refine gc_region ?_
    refine g_ev (e_mv) ?_
    refine g_ev (e_as) ?_
    refine g_nil ?_
    refine gc_seq ?_
    refine gc_region ?_
    refine g_ev (e_mv) ?_
    refine g_ev (e_mv) ?_
    refine g_ev ((e_mulw rfl rfl).to (v' := .int .i64 ((5 * k : Nat) : Int)) (congrArg _ (wrapN (by omega) (by omega)))) ?_
    refine g_ev ((e_addw rfl rfl).to (v' := .int .i64 ((5 * k + 1 : Nat) : Int)) (congrArg _ (wrapN (by omega) (by omega)))) ?_
    refine g_ev (e_mv) ?_
    refine g_ev ((e_addw rfl rfl).to (v' := .int .i64 ((5 * k + 1 + 1 : Nat) : Int)) (congrArg _ (wrapN (by omega) (by omega)))) ?_
    refine g_eff (s_call (read_on b s (5 * k + 1 + 1) (by omega) ho) (.cons (by repeat ((conv => arg 2; whnf); first | with_reducible exact .here | ((with_reducible refine Del.hereC ?_); rfl) | ((with_reducible refine Del.hereS ?_ ?_ ?_) <;> rfl) | exact .here | apply Del.there)) (.nil))) ?_
    rintro _ _ ⟨_, ⟨rfl, rfl⟩, rfl⟩
    refine g_ev (e_mv) ?_
    refine g_ev (e_ex rfl) ?_
    refine g_ev (e_ex rfl) ?_
    refine g_ev (e_as) ?_
    refine g_ev (e_as) ?_
    refine g_nil ?_
    refine gc_seq ?_
    refine gc_seq ?_
    refine gc_region ?_
    refine g_ev (e_mv) ?_
    refine g_ev (e_eq rfl rfl) ?_
    refine g_nil ?_
    first | refine gc_dec rfl (fun c34_1 => ?_) (fun c34_1 => ?_) | refine gc_ndec rfl (fun c34_1 => ?_) (fun c34_1 => ?_) | refine gc_cond rfl (fun c34_1 => ?_) (fun c34_1 => ?_)
    · skip
      refine gc_region ?_
      refine g_ev (e_mv) ?_
      refine g_ev (e_as) ?_
      refine g_nil ?_
      refine gc_region ?_
      refine g_ev (e_mv) ?_
      refine g_ev ((e_shl rfl rfl (by decide)).to (v' := .int .u32 ((s.wp k 1 * 2 ^ 8 : Nat) : Int)) (congrArg _ (wrapU (by first | rfl | (rw [Int.natCast_mul]; done) | (rw [Int.natCast_mul]; rfl) | simp [MemS.wp]) (MemS.wp_s (by decide))))) ?_
      refine g_ev (e_mv) ?_
      refine g_ev ((e_cv Try.underlying5 Try.underlying35 rfl).to (v' := .int .u32 ((s.by (5 * k + 1 + 1) : Nat) : Int)) (congrArg _ (wrapU rfl (Nat.lt_trans (s.by_lt _) (by decide))))) ?_
      refine g_ev ((e_or rfl rfl).to (v' := .int .u32 ((s.wp k 2 : Nat) : Int)) (congrArg _ (or32 (a := s.wp k 1) (k := 8) rfl rfl (s.by_lt _) (s.wp_b (i := 2) (by decide))))) ?_
      refine g_ev (e_as) ?_
      refine g_nil ?_
      refine gc_region ?_
      refine g_ev ((e_addw rfl rfl).to (v' := .int .i64 (2 : Int)) rfl) ?_
      refine g_ev (e_mv) ?_
      refine g_nil ?_
      refine gl_round ?_
      refine gc_seq ?_
      refine gc_region ?_
      refine g_ev (e_lt rfl rfl) ?_
      refine g_nil ?_
      refine gc_seq ?_
      refine gc_true ?_ (hc := by first | ((conv => lhs; whnf); done) | ((conv => lhs; whnf); rfl))
      refine gc_skip ?_
      refine gc_seq ?_
      refine gc_block ?_
      refine gc_seq ?_
      refine gc_region ?_
      refine g_ev (e_mv) ?_
      refine g_ev (e_as) ?_
      refine g_nil ?_
      refine gc_seq ?_
      refine gc_region ?_
      refine g_ev (e_mv) ?_
      refine g_ev (e_mv) ?_
      refine g_ev ((e_mulw rfl rfl).to (v' := .int .i64 ((5 * k : Nat) : Int)) (congrArg _ (wrapN (by omega) (by omega)))) ?_
      refine g_ev ((e_addw rfl rfl).to (v' := .int .i64 ((5 * k + 1 : Nat) : Int)) (congrArg _ (wrapN (by omega) (by omega)))) ?_
      refine g_ev (e_mv) ?_
      refine g_ev ((e_addw rfl rfl).to (v' := .int .i64 ((5 * k + 1 + 2 : Nat) : Int)) (congrArg _ (wrapN (by omega) (by omega)))) ?_
      refine g_eff (s_call (read_on b s (5 * k + 1 + 2) (by omega) ho) (.cons (by repeat ((conv => arg 2; whnf); first | with_reducible exact .here | ((with_reducible refine Del.hereC ?_); rfl) | ((with_reducible refine Del.hereS ?_ ?_ ?_) <;> rfl) | exact .here | apply Del.there)) (.nil))) ?_
      rintro _ _ ⟨_, ⟨rfl, rfl⟩, rfl⟩
      refine g_ev (e_mv) ?_
      refine g_ev (e_ex rfl) ?_
      refine g_ev (e_ex rfl) ?_
      refine g_ev (e_as) ?_
      refine g_ev (e_as) ?_
      refine g_nil ?_
      refine gc_seq ?_
      refine gc_seq ?_
      refine gc_region ?_
      refine g_ev (e_mv) ?_
      refine g_ev (e_eq rfl rfl) ?_
      refine g_nil ?_
      first | refine gc_dec rfl (fun c34_2 => ?_) (fun c34_2 => ?_) | refine gc_ndec rfl (fun c34_2 => ?_) (fun c34_2 => ?_) | refine gc_cond rfl (fun c34_2 => ?_) (fun c34_2 => ?_)
      · skip
        refine gc_region ?_
        refine g_ev (e_mv) ?_
        refine g_ev (e_as) ?_
        refine g_nil ?_
        refine gc_region ?_
        refine g_ev (e_mv) ?_
        refine g_ev ((e_shl rfl rfl (by decide)).to (v' := .int .u32 ((s.wp k 2 * 2 ^ 8 : Nat) : Int)) (congrArg _ (wrapU (by first | rfl | (rw [Int.natCast_mul]; done) | (rw [Int.natCast_mul]; rfl) | simp [MemS.wp]) (MemS.wp_s (by decide))))) ?_
        refine g_ev (e_mv) ?_
        refine g_ev ((e_cv Try.underlying5 Try.underlying35 rfl).to (v' := .int .u32 ((s.by (5 * k + 1 + 2) : Nat) : Int)) (congrArg _ (wrapU rfl (Nat.lt_trans (s.by_lt _) (by decide))))) ?_
        refine g_ev ((e_or rfl rfl).to (v' := .int .u32 ((s.wp k 3 : Nat) : Int)) (congrArg _ (or32 (a := s.wp k 2) (k := 8) rfl rfl (s.by_lt _) (s.wp_b (i := 3) (by decide))))) ?_
        refine g_ev (e_as) ?_
        refine g_nil ?_
        refine gc_region ?_
        refine g_ev ((e_addw rfl rfl).to (v' := .int .i64 (3 : Int)) rfl) ?_
        refine g_ev (e_mv) ?_
        refine g_nil ?_
        refine gl_round ?_
        refine gc_seq ?_
        refine gc_region ?_
        refine g_ev (e_lt rfl rfl) ?_
        refine g_nil ?_
        refine gc_seq ?_
        refine gc_true ?_ (hc := by first | ((conv => lhs; whnf); done) | ((conv => lhs; whnf); rfl))
        refine gc_skip ?_
        refine gc_seq ?_
        refine gc_block ?_
        refine gc_seq ?_
        refine gc_region ?_
        refine g_ev (e_mv) ?_
        refine g_ev (e_as) ?_
        refine g_nil ?_
        refine gc_seq ?_
        refine gc_region ?_
        refine g_ev (e_mv) ?_
        refine g_ev (e_mv) ?_
        refine g_ev ((e_mulw rfl rfl).to (v' := .int .i64 ((5 * k : Nat) : Int)) (congrArg _ (wrapN (by omega) (by omega)))) ?_
        refine g_ev ((e_addw rfl rfl).to (v' := .int .i64 ((5 * k + 1 : Nat) : Int)) (congrArg _ (wrapN (by omega) (by omega)))) ?_
        refine g_ev (e_mv) ?_
        refine g_ev ((e_addw rfl rfl).to (v' := .int .i64 ((5 * k + 1 + 3 : Nat) : Int)) (congrArg _ (wrapN (by omega) (by omega)))) ?_
        refine g_eff (s_call (read_on b s (5 * k + 1 + 3) (by omega) ho) (.cons (by repeat ((conv => arg 2; whnf); first | with_reducible exact .here | ((with_reducible refine Del.hereC ?_); rfl) | ((with_reducible refine Del.hereS ?_ ?_ ?_) <;> rfl) | exact .here | apply Del.there)) (.nil))) ?_
        rintro _ _ ⟨_, ⟨rfl, rfl⟩, rfl⟩
        refine g_ev (e_mv) ?_
        refine g_ev (e_ex rfl) ?_
        refine g_ev (e_ex rfl) ?_
        refine g_ev (e_as) ?_
        refine g_ev (e_as) ?_
        refine g_nil ?_
        refine gc_seq ?_
        refine gc_seq ?_
        refine gc_region ?_
        refine g_ev (e_mv) ?_
        refine g_ev (e_eq rfl rfl) ?_
        refine g_nil ?_
        first | refine gc_dec rfl (fun c34_3 => ?_) (fun c34_3 => ?_) | refine gc_ndec rfl (fun c34_3 => ?_) (fun c34_3 => ?_) | refine gc_cond rfl (fun c34_3 => ?_) (fun c34_3 => ?_)
        · skip
          refine gc_region ?_
          refine g_ev (e_mv) ?_
          refine g_ev (e_as) ?_
          refine g_nil ?_
          refine gc_region ?_
          refine g_ev (e_mv) ?_
          refine g_ev ((e_shl rfl rfl (by decide)).to (v' := .int .u32 ((s.wp k 3 * 2 ^ 8 : Nat) : Int)) (congrArg _ (wrapU (by first | rfl | (rw [Int.natCast_mul]; done) | (rw [Int.natCast_mul]; rfl) | simp [MemS.wp]) (MemS.wp_s (by decide))))) ?_
          refine g_ev (e_mv) ?_
          refine g_ev ((e_cv Try.underlying5 Try.underlying35 rfl).to (v' := .int .u32 ((s.by (5 * k + 1 + 3) : Nat) : Int)) (congrArg _ (wrapU rfl (Nat.lt_trans (s.by_lt _) (by decide))))) ?_
          refine g_ev ((e_or rfl rfl).to (v' := .int .u32 ((s.wp k 4 : Nat) : Int)) (congrArg _ (or32 (a := s.wp k 3) (k := 8) rfl rfl (s.by_lt _) (s.wp_b (i := 4) (by decide))))) ?_
          refine g_ev (e_as) ?_
          refine g_nil ?_
          refine gc_region ?_
          refine g_ev ((e_addw rfl rfl).to (v' := .int .i64 (4 : Int)) rfl) ?_
          refine g_ev (e_mv) ?_
          refine g_nil ?_
          refine gl_round ?_
          refine gc_seq ?_
          refine gc_region ?_
          refine g_ev (e_lt rfl rfl) ?_
          refine g_nil ?_
          refine gc_seq ?_
          refine gc_false ?_ (hc := by first | ((conv => lhs; whnf); done) | ((conv => lhs; whnf); rfl))
          refine gc_exit ?_
          refine gc_seq ?_
          refine gc_region ?_
          refine g_ev (e_mv) ?_
          refine g_ev (e_mv) ?_
          refine g_ev (e_mv) ?_
          refine g_ev (e_as) ?_
          refine g_ev (e_as) ?_
          refine g_ev (e_as) ?_
          refine g_nil ?_
          refine gc_ret ?_
          exact (ret3 rfl (by (conv => lhs; whnf); try rfl) (by (conv => lhs; whnf); try rfl) (by (conv => lhs; whnf); try rfl) ⟨rfl, rfl⟩ (fun _ h => h.fin (by repeat ((conv => arg 1; whnf); (conv => arg 2; whnf); first | with_reducible exact .done | exact Fin.all _ | refine .cons (by repeat ((conv => arg 2; whnf); first | with_reducible exact .here | ((with_reducible refine Del.hereC ?_); rfl) | ((with_reducible refine Del.hereS ?_ ?_ ?_) <;> rfl) | exact .here | apply Del.there)) ?_ | refine .drop ?_))))
        · exact absurd rfl c34_3
      · exact absurd rfl c34_2
    · exact absurd rfl c34_1
  · exact absurd rfl c34_0

theorem cread_off (b : Nat) (s : MemS) (k : Nat) (ho : s.off = true) : Tri Try.prog 29 #[.pointer (some ⟨b, 0, none⟩), .int .i64 (k : Int)] [memP b s] (isR (.tuple #[.int .u8 0, .int .u32 0, .int .i64 70]) [memP b s]) := by
  refine tri_of Try.call29 Try.func29 rfl fun B F => ?_
  refine gc_seq ?_
  refine gc_region ?_
  refine g_ev (e_as) ?_
  refine g_ev (e_as) ?_
  refine g_ev (e_as) ?_
  refine g_nil ?_
  refine gc_seq ?_
  refine gc_region ?_
  refine g_ev (e_mv) ?_
  refine g_ev (e_mv) ?_
  refine g_ev (e_mulw rfl rfl) ?_
  refine g_eff (s_call (read_off b s _ ho) (.cons (by repeat ((conv => arg 2; whnf); first | with_reducible exact .here | ((with_reducible refine Del.hereC ?_); rfl) | ((with_reducible refine Del.hereS ?_ ?_ ?_) <;> rfl) | exact .here | apply Del.there)) (.nil))) ?_
  rintro _ _ ⟨_, ⟨rfl, rfl⟩, rfl⟩
  refine g_ev (e_mv) ?_
  refine g_ev (e_ex rfl) ?_
  refine g_ev (e_ex rfl) ?_
  refine g_ev (e_as) ?_
  refine g_ev (e_as) ?_
  refine g_nil ?_
  refine gc_seq ?_
  refine gc_region ?_
  refine g_ev (e_as) ?_
  refine g_nil ?_
  refine gc_seq ?_
  refine gc_seq ?_
  refine gc_region ?_
  refine g_ev (e_mv) ?_
  refine g_nil ?_
  refine gc_block ?_
  refine gl_start ?_
  refine gl_round ?_
  refine gc_seq ?_
  refine gc_region ?_
  refine g_ev (e_lt rfl rfl) ?_
  refine g_nil ?_
  refine gc_seq ?_
  refine gc_true ?_ (hc := by first | ((conv => lhs; whnf); done) | ((conv => lhs; whnf); rfl))
  refine gc_skip ?_
  refine gc_seq ?_
  refine gc_block ?_
  refine gc_seq ?_
  refine gc_region ?_
  refine g_ev (e_mv) ?_
  refine g_ev (e_as) ?_
  refine g_nil ?_
  refine gc_seq ?_
  refine gc_region ?_
  refine g_ev (e_mv) ?_
  refine g_ev (e_mv) ?_
  refine g_ev (e_mulw rfl rfl) ?_
  refine g_ev (e_addw rfl rfl) ?_
  refine g_ev (e_mv) ?_
  refine g_ev (e_addw rfl rfl) ?_
  refine g_eff (s_call (read_off b s _ ho) (.cons (by repeat ((conv => arg 2; whnf); first | with_reducible exact .here | ((with_reducible refine Del.hereC ?_); rfl) | ((with_reducible refine Del.hereS ?_ ?_ ?_) <;> rfl) | exact .here | apply Del.there)) (.nil))) ?_
  rintro _ _ ⟨_, ⟨rfl, rfl⟩, rfl⟩
  refine g_ev (e_mv) ?_
  refine g_ev (e_ex rfl) ?_
  refine g_ev (e_ex rfl) ?_
  refine g_ev (e_as) ?_
  refine g_ev (e_as) ?_
  refine g_nil ?_
  refine gc_seq ?_
  refine gc_seq ?_
  refine gc_region ?_
  refine g_ev (e_mv) ?_
  refine g_ev (e_eq rfl rfl) ?_
  refine g_nil ?_
  first | refine gc_dec rfl (fun c34_0 => ?_) (fun c34_0 => ?_) | refine gc_ndec rfl (fun c34_0 => ?_) (fun c34_0 => ?_) | refine gc_cond rfl (fun c34_0 => ?_) (fun c34_0 => ?_)
  · exact absurd c34_0 (by decide)
  · skip
    refine gc_skip ?_
    refine gc_region ?_
    refine g_ev (e_mv) ?_
    refine g_ev ((e_shl rfl rfl (by decide)).to (v' := .int .u32 0) rfl) ?_
    refine g_ev (e_mv) ?_
    refine g_ev ((e_cv Try.underlying5 Try.underlying35 rfl).to (v' := .int .u32 0) rfl) ?_
    refine g_ev ((e_or rfl rfl).to (v' := .int .u32 0) rfl) ?_
    refine g_ev (e_as) ?_
    refine g_nil ?_
    refine gc_region ?_
    refine g_ev ((e_addw rfl rfl).to (v' := .int .i64 (1 : Int)) rfl) ?_
    refine g_ev (e_mv) ?_
    refine g_nil ?_
    refine gl_round ?_
    refine gc_seq ?_
    refine gc_region ?_
    refine g_ev (e_lt rfl rfl) ?_
    refine g_nil ?_
    refine gc_seq ?_
    refine gc_true ?_ (hc := by first | ((conv => lhs; whnf); done) | ((conv => lhs; whnf); rfl))
    refine gc_skip ?_
    refine gc_seq ?_
    refine gc_block ?_
    refine gc_seq ?_
    refine gc_region ?_
    refine g_ev (e_mv) ?_
    refine g_ev (e_as) ?_
    refine g_nil ?_
    refine gc_seq ?_
    refine gc_region ?_
    refine g_ev (e_mv) ?_
    refine g_ev (e_mv) ?_
    refine g_ev (e_mulw rfl rfl) ?_
    refine g_ev (e_addw rfl rfl) ?_
    refine g_ev (e_mv) ?_
    refine g_ev (e_addw rfl rfl) ?_
    refine g_eff (s_call (read_off b s _ ho) (.cons (by repeat ((conv => arg 2; whnf); first | with_reducible exact .here | ((with_reducible refine Del.hereC ?_); rfl) | ((with_reducible refine Del.hereS ?_ ?_ ?_) <;> rfl) | exact .here | apply Del.there)) (.nil))) ?_
    rintro _ _ ⟨_, ⟨rfl, rfl⟩, rfl⟩
    refine g_ev (e_mv) ?_
    refine g_ev (e_ex rfl) ?_
    refine g_ev (e_ex rfl) ?_
    refine g_ev (e_as) ?_
    refine g_ev (e_as) ?_
    refine g_nil ?_
    refine gc_seq ?_
    refine gc_seq ?_
    refine gc_region ?_
    refine g_ev (e_mv) ?_
    refine g_ev (e_eq rfl rfl) ?_
    refine g_nil ?_
    first | refine gc_dec rfl (fun c34_1 => ?_) (fun c34_1 => ?_) | refine gc_ndec rfl (fun c34_1 => ?_) (fun c34_1 => ?_) | refine gc_cond rfl (fun c34_1 => ?_) (fun c34_1 => ?_)
    · exact absurd c34_1 (by decide)
    · skip
      refine gc_skip ?_
      refine gc_region ?_
      refine g_ev (e_mv) ?_
      refine g_ev ((e_shl rfl rfl (by decide)).to (v' := .int .u32 0) rfl) ?_
      refine g_ev (e_mv) ?_
      refine g_ev ((e_cv Try.underlying5 Try.underlying35 rfl).to (v' := .int .u32 0) rfl) ?_
      refine g_ev ((e_or rfl rfl).to (v' := .int .u32 0) rfl) ?_
      refine g_ev (e_as) ?_
      refine g_nil ?_
      refine gc_region ?_
      refine g_ev ((e_addw rfl rfl).to (v' := .int .i64 (2 : Int)) rfl) ?_
      refine g_ev (e_mv) ?_
      refine g_nil ?_
      refine gl_round ?_
      refine gc_seq ?_
      refine gc_region ?_
      refine g_ev (e_lt rfl rfl) ?_
      refine g_nil ?_
      refine gc_seq ?_
      refine gc_true ?_ (hc := by first | ((conv => lhs; whnf); done) | ((conv => lhs; whnf); rfl))
      refine gc_skip ?_
      refine gc_seq ?_
      refine gc_block ?_
      refine gc_seq ?_
      refine gc_region ?_
      refine g_ev (e_mv) ?_
      refine g_ev (e_as) ?_
      refine g_nil ?_
      refine gc_seq ?_
      refine gc_region ?_
      refine g_ev (e_mv) ?_
      refine g_ev (e_mv) ?_
      refine g_ev (e_mulw rfl rfl) ?_
      refine g_ev (e_addw rfl rfl) ?_
      refine g_ev (e_mv) ?_
      refine g_ev (e_addw rfl rfl) ?_
      refine g_eff (s_call (read_off b s _ ho) (.cons (by repeat ((conv => arg 2; whnf); first | with_reducible exact .here | ((with_reducible refine Del.hereC ?_); rfl) | ((with_reducible refine Del.hereS ?_ ?_ ?_) <;> rfl) | exact .here | apply Del.there)) (.nil))) ?_
      rintro _ _ ⟨_, ⟨rfl, rfl⟩, rfl⟩
      refine g_ev (e_mv) ?_
      refine g_ev (e_ex rfl) ?_
      refine g_ev (e_ex rfl) ?_
      refine g_ev (e_as) ?_
      refine g_ev (e_as) ?_
      refine g_nil ?_
      refine gc_seq ?_
      refine gc_seq ?_
      refine gc_region ?_
      refine g_ev (e_mv) ?_
      refine g_ev (e_eq rfl rfl) ?_
      refine g_nil ?_
      first | refine gc_dec rfl (fun c34_2 => ?_) (fun c34_2 => ?_) | refine gc_ndec rfl (fun c34_2 => ?_) (fun c34_2 => ?_) | refine gc_cond rfl (fun c34_2 => ?_) (fun c34_2 => ?_)
      · exact absurd c34_2 (by decide)
      · skip
        refine gc_skip ?_
        refine gc_region ?_
        refine g_ev (e_mv) ?_
        refine g_ev ((e_shl rfl rfl (by decide)).to (v' := .int .u32 0) rfl) ?_
        refine g_ev (e_mv) ?_
        refine g_ev ((e_cv Try.underlying5 Try.underlying35 rfl).to (v' := .int .u32 0) rfl) ?_
        refine g_ev ((e_or rfl rfl).to (v' := .int .u32 0) rfl) ?_
        refine g_ev (e_as) ?_
        refine g_nil ?_
        refine gc_region ?_
        refine g_ev ((e_addw rfl rfl).to (v' := .int .i64 (3 : Int)) rfl) ?_
        refine g_ev (e_mv) ?_
        refine g_nil ?_
        refine gl_round ?_
        refine gc_seq ?_
        refine gc_region ?_
        refine g_ev (e_lt rfl rfl) ?_
        refine g_nil ?_
        refine gc_seq ?_
        refine gc_true ?_ (hc := by first | ((conv => lhs; whnf); done) | ((conv => lhs; whnf); rfl))
        refine gc_skip ?_
        refine gc_seq ?_
        refine gc_block ?_
        refine gc_seq ?_
        refine gc_region ?_
        refine g_ev (e_mv) ?_
        refine g_ev (e_as) ?_
        refine g_nil ?_
        refine gc_seq ?_
        refine gc_region ?_
        refine g_ev (e_mv) ?_
        refine g_ev (e_mv) ?_
        refine g_ev (e_mulw rfl rfl) ?_
        refine g_ev (e_addw rfl rfl) ?_
        refine g_ev (e_mv) ?_
        refine g_ev (e_addw rfl rfl) ?_
        refine g_eff (s_call (read_off b s _ ho) (.cons (by repeat ((conv => arg 2; whnf); first | with_reducible exact .here | ((with_reducible refine Del.hereC ?_); rfl) | ((with_reducible refine Del.hereS ?_ ?_ ?_) <;> rfl) | exact .here | apply Del.there)) (.nil))) ?_
        rintro _ _ ⟨_, ⟨rfl, rfl⟩, rfl⟩
        refine g_ev (e_mv) ?_
        refine g_ev (e_ex rfl) ?_
        refine g_ev (e_ex rfl) ?_
        refine g_ev (e_as) ?_
        refine g_ev (e_as) ?_
        refine g_nil ?_
        refine gc_seq ?_
        refine gc_seq ?_
        refine gc_region ?_
        refine g_ev (e_mv) ?_
        refine g_ev (e_eq rfl rfl) ?_
        refine g_nil ?_
        first | refine gc_dec rfl (fun c34_3 => ?_) (fun c34_3 => ?_) | refine gc_ndec rfl (fun c34_3 => ?_) (fun c34_3 => ?_) | refine gc_cond rfl (fun c34_3 => ?_) (fun c34_3 => ?_)
        · exact absurd c34_3 (by decide)
        · skip
          refine gc_skip ?_
          refine gc_region ?_
          refine g_ev (e_mv) ?_
          refine g_ev ((e_shl rfl rfl (by decide)).to (v' := .int .u32 0) rfl) ?_
          refine g_ev (e_mv) ?_
          refine g_ev ((e_cv Try.underlying5 Try.underlying35 rfl).to (v' := .int .u32 0) rfl) ?_
          refine g_ev ((e_or rfl rfl).to (v' := .int .u32 0) rfl) ?_
          refine g_ev (e_as) ?_
          refine g_nil ?_
          refine gc_region ?_
          refine g_ev ((e_addw rfl rfl).to (v' := .int .i64 (4 : Int)) rfl) ?_
          refine g_ev (e_mv) ?_
          refine g_nil ?_
          refine gl_round ?_
          refine gc_seq ?_
          refine gc_region ?_
          refine g_ev (e_lt rfl rfl) ?_
          refine g_nil ?_
          refine gc_seq ?_
          refine gc_false ?_ (hc := by first | ((conv => lhs; whnf); done) | ((conv => lhs; whnf); rfl))
          refine gc_exit ?_
          refine gc_seq ?_
          refine gc_region ?_
          refine g_ev (e_mv) ?_
          refine g_ev (e_mv) ?_
          refine g_ev (e_mv) ?_
          refine g_ev (e_as) ?_
          refine g_ev (e_as) ?_
          refine g_ev (e_as) ?_
          refine g_nil ?_
          refine gc_ret ?_
          exact (ret3 rfl (by (conv => lhs; whnf); try rfl) (by (conv => lhs; whnf); try rfl) (by (conv => lhs; whnf); try rfl) ⟨rfl, rfl⟩ (fun _ h => h.fin (by repeat ((conv => arg 1; whnf); (conv => arg 2; whnf); first | with_reducible exact .done | exact Fin.all _ | refine .cons (by repeat ((conv => arg 2; whnf); first | with_reducible exact .here | ((with_reducible refine Del.hereC ?_); rfl) | ((with_reducible refine Del.hereS ?_ ?_ ?_) <;> rfl) | exact .here | apply Del.there)) ?_ | refine .drop ?_))))


theorem MemS.write_len (s : MemS) (a : Int) (c : UInt8) : (s.write a c).2.bs.length = s.bs.length := by
  unfold MemS.write
  split; · rfl
  split; · rfl
  split; · rfl
  simp
def wseq : MemS → List (Int × UInt8) → Int × MemS
  | s, [] => (0, s)
  | s, (a, c) :: l => if (s.write a c).1 = 0 then wseq (s.write a c).2 l else s.write a c
theorem wseq_stop {s : MemS} {a : Int} {c : UInt8} {l} (h : ¬ (s.write a c).1 = 0) : wseq s ((a, c) :: l) = s.write a c := if_neg h
theorem wseq_go {s : MemS} {a : Int} {c : UInt8} {l} (h : (s.write a c).1 = 0) : wseq s ((a, c) :: l) = wseq (s.write a c).2 l := if_pos h
theorem wseq_last {s : MemS} {a : Int} {c : UInt8} : wseq s [(a, c)] = s.write a c := by
  show (if (s.write a c).1 = 0 then (0, (s.write a c).2) else s.write a c) = _
  split
  · rename_i h; rw [← h]
  · rfl
def slotW (k w : Nat) : List (Int × UInt8) := [(((5 * k : Nat) : Int), 0), (((5 * k + 1 + 0 : Nat) : Int), wb w 24), (((5 * k + 1 + 1 : Nat) : Int), wb w 16), (((5 * k + 1 + 2 : Nat) : Int), wb w 8), (((5 * k + 1 + 3 : Nat) : Int), wb w 0), (((5 * k : Nat) : Int), 165)]
def MemS.slot (s : MemS) (k w : Nat) : Int × MemS := wseq s (slotW k w)
def ws (s : MemS) : List (Int × UInt8) → MemS
  | [] => s
  | (a, c) :: l => ws (s.write a c).2 l

theorem cwrite_t (b : Nat) (s : MemS) (k w : Nat) (hk : k ≤ 1) : Tri Try.prog 38 #[.pointer (some ⟨b, 0, none⟩), .int .i64 (k : Int), .int .u32 (w : Int)] [memP b s] (writeR b (s.slot k w)) := by
  refine tri_of Try.call38 Try.func38 rfl fun B F => ?_
  refine gc_seq ?_
  refine gc_region ?_
  refine g_ev (e_as) ?_
  refine g_nil ?_
  refine gc_seq ?_
  refine gc_seq ?_
  refine gc_region ?_
  refine g_ev (e_mv) ?_
  refine g_ev (e_mv) ?_
  refine g_ev ((e_mulw rfl rfl).to (v' := .int .i64 ((5 * k : Nat) : Int)) (congrArg _ (wrapN (by omega) (by omega)))) ?_
  refine g_eff (s_call (write_t b s ((5 * k : Nat) : Int) 0) (.cons (by repeat ((conv => arg 2; whnf); first | with_reducible exact .here | ((with_reducible refine Del.hereC ?_); rfl) | ((with_reducible refine Del.hereS ?_ ?_ ?_) <;> rfl) | exact .here | apply Del.there)) (.nil))) ?_
  rintro _ _ ⟨_, ⟨rfl, rfl⟩, rfl⟩
  refine g_ev (e_as) ?_
  refine g_nil ?_
  refine gc_seq ?_
  refine gc_region ?_
  refine g_ev (e_mv) ?_
  refine g_ev (e_ne rfl rfl) ?_
  refine g_nil ?_
  first | refine gc_dec rfl (fun c15 => ?_) (fun c15 => ?_) | refine gc_ndec rfl (fun c15 => ?_) (fun c15 => ?_) | refine gc_cond rfl (fun c15 => ?_) (fun c15 => ?_)
  · skip
    refine gc_seq ?_
    refine gc_region ?_
    refine g_ev (e_mv) ?_
    refine g_ev (e_as) ?_
    refine g_nil ?_
    refine gc_ret ?_
    exact (ret1 (L1 := [memP b (s.write ((5 * k : Nat) : Int) 0).2]) rfl (by (conv => lhs; whnf); try rfl) (by have e : s.slot k w = _ := wseq_stop c15; unfold writeR; rw [e]; exact And.intro rfl rfl) (fun _ h => h))
  · skip
    refine gc_skip ?_
    refine gc_seq ?_
    refine gc_seq ?_
    refine gc_region ?_
    refine g_ev (e_mv) ?_
    refine g_nil ?_
    refine gc_block ?_
    refine gl_start ?_
    refine gl_round ?_
    refine gc_seq ?_
    refine gc_region ?_
    refine g_ev (e_lt rfl rfl) ?_
    refine g_nil ?_
    refine gc_seq ?_
    refine gc_true ?_ (hc := by first | ((conv => lhs; whnf); done) | ((conv => lhs; whnf); rfl))
    refine gc_skip ?_
    refine gc_seq ?_
    refine gc_block ?_
    refine gc_seq ?_
    refine gc_region ?_
    refine g_ev (e_mv) ?_
    refine g_ev (e_as) ?_
    refine g_nil ?_
    refine gc_seq ?_
    refine gc_region ?_
    refine g_ev (e_mv) ?_
    refine g_ev (e_mv) ?_
    refine g_ev ((e_mulw rfl rfl).to (v' := .int .i64 ((5 * k : Nat) : Int)) (congrArg _ (wrapN (by omega) (by omega)))) ?_
    refine g_ev ((e_addw rfl rfl).to (v' := .int .i64 ((5 * k + 1 : Nat) : Int)) (congrArg _ (wrapN (by omega) (by omega)))) ?_
    refine g_ev (e_mv) ?_
    refine g_ev ((e_addw rfl rfl).to (v' := .int .i64 ((5 * k + 1 + 0 : Nat) : Int)) (congrArg _ (wrapN (by omega) (by omega)))) ?_
    refine g_ev (e_mv) ?_
    refine g_ev (e_mv) ?_
    refine g_ev ((e_mulw rfl rfl).to (v' := .int .i64 ((8 * 0 : Nat) : Int)) rfl) ?_
    refine g_ev ((e_subw rfl rfl).to (v' := .int .i64 ((24 - 8 * 0 : Nat) : Int)) rfl) ?_
    refine g_ev ((e_shr rfl rfl (by decide)).to (v' := .int .u32 ((w / 2 ^ (24 - 8 * 0) : Nat) : Int)) (congrArg _ (fdivN (k := 24 - 8 * 0)))) ?_
    refine g_ev ((e_cv Try.underlying35 Try.underlying5 rfl).to (v' := .int .u8 ((wb w (24 - 8 * 0)).toNat : Int)) (congrArg _ (byteW rfl))) ?_
    refine g_eff (s_call (write_t b (ws s ((slotW k w).take 1)) ((5 * k + 1 + 0 : Nat) : Int) (wb w (24 - 8 * 0))) (.cons (by repeat ((conv => arg 2; whnf); first | with_reducible exact .here | ((with_reducible refine Del.hereC ?_); rfl) | ((with_reducible refine Del.hereS ?_ ?_ ?_) <;> rfl) | exact .here | apply Del.there)) (.nil))) ?_
    rintro _ _ ⟨_, ⟨rfl, rfl⟩, rfl⟩
    refine g_ev (e_as) ?_
    refine g_nil ?_
    refine gc_seq ?_
    refine gc_region ?_
    refine g_ev (e_mv) ?_
    refine g_ev (e_ne rfl rfl) ?_
    refine g_nil ?_
    first | refine gc_dec rfl (fun c34_0 => ?_) (fun c34_0 => ?_) | refine gc_ndec rfl (fun c34_0 => ?_) (fun c34_0 => ?_) | refine gc_cond rfl (fun c34_0 => ?_) (fun c34_0 => ?_)
    · skip
      refine gc_seq ?_
      refine gc_region ?_
      refine g_ev (e_mv) ?_
      refine g_ev (e_as) ?_
      refine g_nil ?_
      refine gc_ret ?_
      exact (ret1 (L1 := [memP b (ws s ((slotW k w).take 2))]) rfl (by (conv => lhs; whnf); try rfl) (by have e : s.slot k w = _ := (wseq_go c15).trans (wseq_stop c34_0); unfold writeR; rw [e]; exact And.intro rfl rfl) (fun _ h => h))
    · skip
      refine gc_skip ?_
      refine gc_region ?_
      refine g_ev ((e_addw rfl rfl).to (v' := .int .i64 (1 : Int)) rfl) ?_
      refine g_ev (e_mv) ?_
      refine g_nil ?_
      refine gl_round ?_
      refine gc_seq ?_
      refine gc_region ?_
      refine g_ev (e_lt rfl rfl) ?_
      refine g_nil ?_
      refine gc_seq ?_
      refine gc_true ?_ (hc := by first | ((conv => lhs; whnf); done) | ((conv => lhs; whnf); rfl))
      refine gc_skip ?_
      refine gc_seq ?_
      refine gc_block ?_
      refine gc_seq ?_
      refine gc_region ?_
      refine g_ev (e_mv) ?_
      refine g_ev (e_as) ?_
      refine g_nil ?_
      refine gc_seq ?_
      refine gc_region ?_
      refine g_ev (e_mv) ?_
      refine g_ev (e_mv) ?_
      refine g_ev ((e_mulw rfl rfl).to (v' := .int .i64 ((5 * k : Nat) : Int)) (congrArg _ (wrapN (by omega) (by omega)))) ?_
      refine g_ev ((e_addw rfl rfl).to (v' := .int .i64 ((5 * k + 1 : Nat) : Int)) (congrArg _ (wrapN (by omega) (by omega)))) ?_
      refine g_ev (e_mv) ?_
      refine g_ev ((e_addw rfl rfl).to (v' := .int .i64 ((5 * k + 1 + 1 : Nat) : Int)) (congrArg _ (wrapN (by omega) (by omega)))) ?_
      refine g_ev (e_mv) ?_
      refine g_ev (e_mv) ?_
      refine g_ev ((e_mulw rfl rfl).to (v' := .int .i64 ((8 * 1 : Nat) : Int)) rfl) ?_
      refine g_ev ((e_subw rfl rfl).to (v' := .int .i64 ((24 - 8 * 1 : Nat) : Int)) rfl) ?_
      refine g_ev ((e_shr rfl rfl (by decide)).to (v' := .int .u32 ((w / 2 ^ (24 - 8 * 1) : Nat) : Int)) (congrArg _ (fdivN (k := 24 - 8 * 1)))) ?_
      refine g_ev ((e_cv Try.underlying35 Try.underlying5 rfl).to (v' := .int .u8 ((wb w (24 - 8 * 1)).toNat : Int)) (congrArg _ (byteW rfl))) ?_
      refine g_eff (s_call (write_t b (ws s ((slotW k w).take 2)) ((5 * k + 1 + 1 : Nat) : Int) (wb w (24 - 8 * 1))) (.cons (by repeat ((conv => arg 2; whnf); first | with_reducible exact .here | ((with_reducible refine Del.hereC ?_); rfl) | ((with_reducible refine Del.hereS ?_ ?_ ?_) <;> rfl) | exact .here | apply Del.there)) (.nil))) ?_
      rintro _ _ ⟨_, ⟨rfl, rfl⟩, rfl⟩
      refine g_ev (e_as) ?_
      refine g_nil ?_
      refine gc_seq ?_
      refine gc_region ?_
      refine g_ev (e_mv) ?_
      refine g_ev (e_ne rfl rfl) ?_
      refine g_nil ?_
      first | refine gc_dec rfl (fun c34_1 => ?_) (fun c34_1 => ?_) | refine gc_ndec rfl (fun c34_1 => ?_) (fun c34_1 => ?_) | refine gc_cond rfl (fun c34_1 => ?_) (fun c34_1 => ?_)
      · skip
        refine gc_seq ?_
        refine gc_region ?_
        refine g_ev (e_mv) ?_
        refine g_ev (e_as) ?_
        refine g_nil ?_
        refine gc_ret ?_
        exact (ret1 (L1 := [memP b (ws s ((slotW k w).take 3))]) rfl (by (conv => lhs; whnf); try rfl) (by have e : s.slot k w = _ := (wseq_go c15).trans ((wseq_go c34_0).trans (wseq_stop c34_1)); unfold writeR; rw [e]; exact And.intro rfl rfl) (fun _ h => h))
      · skip
        refine gc_skip ?_
        refine gc_region ?_
        refine g_ev ((e_addw rfl rfl).to (v' := .int .i64 (2 : Int)) rfl) ?_
        refine g_ev (e_mv) ?_
        refine g_nil ?_
        refine gl_round ?_
        refine gc_seq ?_
        refine gc_region ?_
        refine g_ev (e_lt rfl rfl) ?_
        refine g_nil ?_
        refine gc_seq ?_
        refine gc_true ?_ (hc := by first | ((conv => lhs; whnf); done) | ((conv => lhs; whnf); rfl))
        refine gc_skip ?_
        refine gc_seq ?_
        refine gc_block ?_
        refine gc_seq ?_
        refine gc_region ?_
        refine g_ev (e_mv) ?_
        refine g_ev (e_as) ?_
        refine g_nil ?_
        refine gc_seq ?_
        refine gc_region ?_
        refine g_ev (e_mv) ?_
        refine g_ev (e_mv) ?_
        refine g_ev ((e_mulw rfl rfl).to (v' := .int .i64 ((5 * k : Nat) : Int)) (congrArg _ (wrapN (by omega) (by omega)))) ?_
        refine g_ev ((e_addw rfl rfl).to (v' := .int .i64 ((5 * k + 1 : Nat) : Int)) (congrArg _ (wrapN (by omega) (by omega)))) ?_
        refine g_ev (e_mv) ?_
        refine g_ev ((e_addw rfl rfl).to (v' := .int .i64 ((5 * k + 1 + 2 : Nat) : Int)) (congrArg _ (wrapN (by omega) (by omega)))) ?_
        refine g_ev (e_mv) ?_
        refine g_ev (e_mv) ?_
        refine g_ev ((e_mulw rfl rfl).to (v' := .int .i64 ((8 * 2 : Nat) : Int)) rfl) ?_
        refine g_ev ((e_subw rfl rfl).to (v' := .int .i64 ((24 - 8 * 2 : Nat) : Int)) rfl) ?_
        refine g_ev ((e_shr rfl rfl (by decide)).to (v' := .int .u32 ((w / 2 ^ (24 - 8 * 2) : Nat) : Int)) (congrArg _ (fdivN (k := 24 - 8 * 2)))) ?_
        refine g_ev ((e_cv Try.underlying35 Try.underlying5 rfl).to (v' := .int .u8 ((wb w (24 - 8 * 2)).toNat : Int)) (congrArg _ (byteW rfl))) ?_
        refine g_eff (s_call (write_t b (ws s ((slotW k w).take 3)) ((5 * k + 1 + 2 : Nat) : Int) (wb w (24 - 8 * 2))) (.cons (by repeat ((conv => arg 2; whnf); first | with_reducible exact .here | ((with_reducible refine Del.hereC ?_); rfl) | ((with_reducible refine Del.hereS ?_ ?_ ?_) <;> rfl) | exact .here | apply Del.there)) (.nil))) ?_
        rintro _ _ ⟨_, ⟨rfl, rfl⟩, rfl⟩
        refine g_ev (e_as) ?_
        refine g_nil ?_
        refine gc_seq ?_
        refine gc_region ?_
        refine g_ev (e_mv) ?_
        refine g_ev (e_ne rfl rfl) ?_
        refine g_nil ?_
        first | refine gc_dec rfl (fun c34_2 => ?_) (fun c34_2 => ?_) | refine gc_ndec rfl (fun c34_2 => ?_) (fun c34_2 => ?_) | refine gc_cond rfl (fun c34_2 => ?_) (fun c34_2 => ?_)
        · skip
          refine gc_seq ?_
          refine gc_region ?_
          refine g_ev (e_mv) ?_
          refine g_ev (e_as) ?_
          refine g_nil ?_
          refine gc_ret ?_
          exact (ret1 (L1 := [memP b (ws s ((slotW k w).take 4))]) rfl (by (conv => lhs; whnf); try rfl) (by have e : s.slot k w = _ := (wseq_go c15).trans ((wseq_go c34_0).trans ((wseq_go c34_1).trans (wseq_stop c34_2))); unfold writeR; rw [e]; exact And.intro rfl rfl) (fun _ h => h))
        · skip
          refine gc_skip ?_
          refine gc_region ?_
          refine g_ev ((e_addw rfl rfl).to (v' := .int .i64 (3 : Int)) rfl) ?_
          refine g_ev (e_mv) ?_
          refine g_nil ?_
          refine gl_round ?_
          refine gc_seq ?_
          refine gc_region ?_
          refine g_ev (e_lt rfl rfl) ?_
          refine g_nil ?_
          refine gc_seq ?_
          refine gc_true ?_ (hc := by first | ((conv => lhs; whnf); done) | ((conv => lhs; whnf); rfl))
          refine gc_skip ?_
          refine gc_seq ?_
          refine gc_block ?_
          refine gc_seq ?_
          refine gc_region ?_
          refine g_ev (e_mv) ?_
          refine g_ev (e_as) ?_
          refine g_nil ?_
          refine gc_seq ?_
          refine gc_region ?_
          refine g_ev (e_mv) ?_
          refine g_ev (e_mv) ?_
          refine g_ev ((e_mulw rfl rfl).to (v' := .int .i64 ((5 * k : Nat) : Int)) (congrArg _ (wrapN (by omega) (by omega)))) ?_
          refine g_ev ((e_addw rfl rfl).to (v' := .int .i64 ((5 * k + 1 : Nat) : Int)) (congrArg _ (wrapN (by omega) (by omega)))) ?_
          refine g_ev (e_mv) ?_
          refine g_ev ((e_addw rfl rfl).to (v' := .int .i64 ((5 * k + 1 + 3 : Nat) : Int)) (congrArg _ (wrapN (by omega) (by omega)))) ?_
          refine g_ev (e_mv) ?_
          refine g_ev (e_mv) ?_
          refine g_ev ((e_mulw rfl rfl).to (v' := .int .i64 ((8 * 3 : Nat) : Int)) rfl) ?_
          refine g_ev ((e_subw rfl rfl).to (v' := .int .i64 ((24 - 8 * 3 : Nat) : Int)) rfl) ?_
          refine g_ev ((e_shr rfl rfl (by decide)).to (v' := .int .u32 ((w / 2 ^ (24 - 8 * 3) : Nat) : Int)) (congrArg _ (fdivN (k := 24 - 8 * 3)))) ?_
          refine g_ev ((e_cv Try.underlying35 Try.underlying5 rfl).to (v' := .int .u8 ((wb w (24 - 8 * 3)).toNat : Int)) (congrArg _ (byteW rfl))) ?_
          refine g_eff (s_call (write_t b (ws s ((slotW k w).take 4)) ((5 * k + 1 + 3 : Nat) : Int) (wb w (24 - 8 * 3))) (.cons (by repeat ((conv => arg 2; whnf); first | with_reducible exact .here | ((with_reducible refine Del.hereC ?_); rfl) | ((with_reducible refine Del.hereS ?_ ?_ ?_) <;> rfl) | exact .here | apply Del.there)) (.nil))) ?_
          rintro _ _ ⟨_, ⟨rfl, rfl⟩, rfl⟩
          refine g_ev (e_as) ?_
          refine g_nil ?_
          refine gc_seq ?_
          refine gc_region ?_
          refine g_ev (e_mv) ?_
          refine g_ev (e_ne rfl rfl) ?_
          refine g_nil ?_
          first | refine gc_dec rfl (fun c34_3 => ?_) (fun c34_3 => ?_) | refine gc_ndec rfl (fun c34_3 => ?_) (fun c34_3 => ?_) | refine gc_cond rfl (fun c34_3 => ?_) (fun c34_3 => ?_)
          · skip
            refine gc_seq ?_
            refine gc_region ?_
            refine g_ev (e_mv) ?_
            refine g_ev (e_as) ?_
            refine g_nil ?_
            refine gc_ret ?_
            exact (ret1 (L1 := [memP b (ws s ((slotW k w).take 5))]) rfl (by (conv => lhs; whnf); try rfl) (by have e : s.slot k w = _ := (wseq_go c15).trans ((wseq_go c34_0).trans ((wseq_go c34_1).trans ((wseq_go c34_2).trans (wseq_stop c34_3)))); unfold writeR; rw [e]; exact And.intro rfl rfl) (fun _ h => h))
          · skip
            refine gc_skip ?_
            refine gc_region ?_
            refine g_ev ((e_addw rfl rfl).to (v' := .int .i64 (4 : Int)) rfl) ?_
            refine g_ev (e_mv) ?_
            refine g_nil ?_
            refine gl_round ?_
            refine gc_seq ?_
            refine gc_region ?_
            refine g_ev (e_lt rfl rfl) ?_
            refine g_nil ?_
            refine gc_seq ?_
            refine gc_false ?_ (hc := by first | ((conv => lhs; whnf); done) | ((conv => lhs; whnf); rfl))
            refine gc_exit ?_
            refine gc_seq ?_
            refine gc_region ?_
            refine g_ev (e_mv) ?_
            refine g_ev (e_mv) ?_
            refine g_ev ((e_mulw rfl rfl).to (v' := .int .i64 ((5 * k : Nat) : Int)) (congrArg _ (wrapN (by omega) (by omega)))) ?_
            refine g_eff (s_call (write_t b (ws s ((slotW k w).take 5)) ((5 * k : Nat) : Int) 165) (.cons (by repeat ((conv => arg 2; whnf); first | with_reducible exact .here | ((with_reducible refine Del.hereC ?_); rfl) | ((with_reducible refine Del.hereS ?_ ?_ ?_) <;> rfl) | exact .here | apply Del.there)) (.nil))) ?_
            rintro _ _ ⟨_, ⟨rfl, rfl⟩, rfl⟩
            refine g_ev (e_as) ?_
            refine g_nil ?_
            refine gc_ret ?_
            exact (ret1 (L1 := [memP b (ws s (slotW k w))]) rfl (by (conv => lhs; whnf); try rfl) (by have e : s.slot k w = _ := (wseq_go c15).trans ((wseq_go c34_0).trans ((wseq_go c34_1).trans ((wseq_go c34_2).trans ((wseq_go c34_3).trans wseq_last)))); unfold writeR; rw [e]; exact And.intro rfl rfl) (fun _ h => h))


def MemS.val (s : MemS) : Nat := if s.by 0 = 165 then (if s.by 5 = 165 then max (s.word 0) (s.word 1) else s.word 0) else if s.by 5 = 165 then s.word 1 else 0
def MemS.fixW (s : MemS) : List (Int × UInt8) :=
  if s.by 0 = 165 then (if s.by 5 = 165 then [] else slotW 1 (s.word 0)) else if s.by 5 = 165 then slotW 0 (s.word 1) else (if s.by 0 = 0 then [] else [(0, 0)]) ++ (if s.by 5 = 0 then [] else [(5, 0)])
def MemS.fix (s : MemS) : Int × MemS := wseq s s.fixW
def memV (b : Nat) (v : Nat) (r : Int × MemS) : Value → List HProp → Prop := isR (.tuple #[.int .u32 (v : Int), .int .i64 r.1]) [memP b r.2]
theorem val_max {a b : Nat} : (if (b : Int) > (a : Int) then (b : Int) else (a : Int)) = ((max a b : Nat) : Int) := by split <;> omega

theorem repair_t (b : Nat) (s : MemS) : Tri Try.prog 30 #[.pointer (some ⟨b, 0, none⟩), .agg #[.int .u8 ((s.by 0 : Nat) : Int), .int .u8 ((s.by 5 : Nat) : Int)], .agg #[.int .u32 ((s.word 0 : Nat) : Int), .int .u32 ((s.word 1 : Nat) : Int)]] [memP b s] (memV b s.val s.fix) := by
  refine tri_of Try.call30 Try.func30 rfl fun B F => ?_
  refine gc_seq ?_
  refine gc_region ?_
  refine g_eff (s_bx) ?_
  rintro _ _ ⟨b4, rfl, rfl⟩
  refine g_eff (s_bx) ?_
  rintro _ _ ⟨b5, rfl, rfl⟩
  refine g_ev (e_as) ?_
  refine g_ev (e_as) ?_
  refine g_nil ?_
  refine gc_seq ?_
  refine gc_region ?_
  refine g_ev (e_iap Try.underlying71 Try.sizeOf5 rfl rfl rfl (by simp)) ?_
  refine g_ev (e_ld Try.underlying5 rfl (by repeat ((conv => arg 2; whnf); first | with_reducible exact .here | ((with_reducible refine Del.hereC ?_); rfl) | ((with_reducible refine Del.hereS ?_ ?_ ?_) <;> rfl) | exact .here | apply Del.there)) rfl) ?_
  refine g_ev (e_eq rfl rfl) ?_
  refine g_ev (e_iap Try.underlying71 Try.sizeOf5 rfl rfl rfl (by simp)) ?_
  refine g_ev (e_ld Try.underlying5 rfl (by repeat ((conv => arg 2; whnf); first | with_reducible exact .here | ((with_reducible refine Del.hereC ?_); rfl) | ((with_reducible refine Del.hereS ?_ ?_ ?_) <;> rfl) | exact .here | apply Del.there)) rfl) ?_
  refine g_ev (e_eq rfl rfl) ?_
  refine g_ev ((e_bdA Try.underlying90 Try.zeroValue90 Try.sizeOf4 rfl).to (v' := .agg ⟨[.bool (decide (((s.by 0 : Nat) : Int) = 165)), .bool (decide (((s.by 5 : Nat) : Int) = 165))]⟩) rfl) ?_
  refine g_eff (s_al Try.zeroValue90) ?_
  rintro _ _ ⟨b8, rfl, rfl⟩
  refine g_eff (s_stA Try.sizeOf90 rfl rfl (by repeat ((conv => arg 3; whnf); first | with_reducible exact .here | apply Turn.there))) ?_
  rintro _ _ ⟨rfl, rfl⟩
  refine g_nil ?_
  refine gc_seq ?_
  refine gc_block ?_
  refine gc_seq ?_
  refine gc_region ?_
  refine g_ev (e_iap Try.underlying90 Try.sizeOf4 rfl rfl rfl (by simp)) ?_
  refine g_ev (e_ld Try.underlying4 rfl (by repeat ((conv => arg 2; whnf); first | with_reducible exact .here | ((with_reducible refine Del.hereC ?_); rfl) | ((with_reducible refine Del.hereS ?_ ?_ ?_) <;> rfl) | exact .here | apply Del.there)) rfl) ?_
  refine g_ev (e_mv) ?_
  first | refine g_dec 21 rfl (fun c21 => ?_) (fun c21 => ?_) | refine g_ndec 21 rfl (fun c21 => ?_) (fun c21 => ?_) | refine g_bool 21 rfl (fun c21 => ?_) (fun c21 => ?_)
  · skip
    refine g_ev (e_iap Try.underlying90 Try.sizeOf4 rfl rfl rfl (by simp)) ?_
    refine g_ev (e_ld Try.underlying4 rfl (by repeat ((conv => arg 2; whnf); first | with_reducible exact .here | ((with_reducible refine Del.hereC ?_); rfl) | ((with_reducible refine Del.hereS ?_ ?_ ?_) <;> rfl) | exact .here | apply Del.there)) rfl) ?_
    refine g_ev (e_pk rfl) ?_
    refine g_ev (e_as) ?_
    refine g_nil ?_
    first | refine gc_dec rfl (fun c18 => ?_) (fun c18 => ?_) | refine gc_ndec rfl (fun c18 => ?_) (fun c18 => ?_) | refine gc_cond rfl (fun c18 => ?_) (fun c18 => ?_)
    · skip
      refine gc_seq ?_
      refine gc_region ?_
      refine g_ev (e_iap Try.underlying72 Try.sizeOf35 rfl rfl rfl (by simp)) ?_
      refine g_ev (e_ld Try.underlying35 rfl (by repeat ((conv => arg 2; whnf); first | with_reducible exact .here | ((with_reducible refine Del.hereC ?_); rfl) | ((with_reducible refine Del.hereS ?_ ?_ ?_) <;> rfl) | exact .here | apply Del.there)) rfl) ?_
      refine g_ev (e_iap Try.underlying72 Try.sizeOf35 rfl rfl rfl (by simp)) ?_
      refine g_ev (e_ld Try.underlying35 rfl (by repeat ((conv => arg 2; whnf); first | with_reducible exact .here | ((with_reducible refine Del.hereC ?_); rfl) | ((with_reducible refine Del.hereS ?_ ?_ ?_) <;> rfl) | exact .here | apply Del.there)) rfl) ?_
      refine g_ev (e_max rfl rfl) ?_
      refine g_ev (e_as) ?_
      refine g_ev (e_as) ?_
      refine g_nil ?_
      refine gc_ret ?_
      exact ret2 (v := .int .u32 ((max (s.word 0) (s.word 1) : Nat) : Int)) (L1 := [memP b s]) rfl (by (conv => lhs; whnf); exact congrArg _ val_max) (by (conv => lhs; whnf); try rfl) (by have hv : s.val = max (s.word 0) (s.word 1) := by { unfold MemS.val; rw [if_pos (by omega), if_pos (by omega)] }; have hf : s.fix = (0, s) := by { unfold MemS.fix MemS.fixW; rw [if_pos (by omega), if_pos (by omega)]; rfl }; unfold memV; rw [hv, hf]; exact And.intro rfl rfl) (fun _ h => h.fin (by repeat ((conv => arg 1; whnf); (conv => arg 2; whnf); first | with_reducible exact .done | exact Fin.all _ | refine .cons (by repeat ((conv => arg 2; whnf); first | with_reducible exact .here | ((with_reducible refine Del.hereC ?_); rfl) | ((with_reducible refine Del.hereS ?_ ?_ ?_) <;> rfl) | exact .here | apply Del.there)) ?_ | refine .drop ?_)))
    · skip
      refine gc_seq ?_
      refine gc_region ?_
      refine g_ev (e_iap Try.underlying90 Try.sizeOf4 rfl rfl rfl (by simp)) ?_
      refine g_ev (e_ld Try.underlying4 rfl (by repeat ((conv => arg 2; whnf); first | with_reducible exact .here | ((with_reducible refine Del.hereC ?_); rfl) | ((with_reducible refine Del.hereS ?_ ?_ ?_) <;> rfl) | exact .here | apply Del.there)) rfl) ?_
      refine g_ev (e_as) ?_
      refine g_nil ?_
      refine gc_true ?_ (hc := by (conv => lhs; whnf); exact congrArg Value.bool (decide_eq_true c21))
      refine gc_seq ?_
      refine gc_draw (D := [memP b s]) (fin := none) (plan := [(true, 0), (true, 1), (true, 2), (true, 3), (true, 4), (false, 5), (true, 6), (true, 7)]) rfl (by kernel_rfl) (by kernel_rfl) rfl (.cons (by repeat ((conv => arg 2; whnf); first | with_reducible exact .here | ((with_reducible refine Del.hereC ?_); rfl) | ((with_reducible refine Del.hereS ?_ ?_ ?_) <;> rfl) | exact .here | apply Del.there)) .nil) ?_
      refine gp_ev rfl (e_iap Try.underlying72 Try.sizeOf35 rfl rfl rfl (by simp)) ?_
      refine gp_ev rfl (e_ld Try.underlying35 rfl (by repeat ((conv => arg 2; whnf); first | with_reducible exact .here | ((with_reducible refine Del.hereC ?_); rfl) | ((with_reducible refine Del.hereS ?_ ?_ ?_) <;> rfl) | exact .here | apply Del.there)) rfl) ?_
      refine gp_ev rfl (e_mv) ?_
      refine gp_ev rfl (e_iap Try.underlying72 Try.sizeOf35 rfl rfl rfl (by simp)) ?_
      refine gp_ev rfl (e_ld Try.underlying35 rfl (by repeat ((conv => arg 2; whnf); first | with_reducible exact .here | ((with_reducible refine Del.hereC ?_); rfl) | ((with_reducible refine Del.hereS ?_ ?_ ?_) <;> rfl) | exact .here | apply Del.there)) rfl) ?_
      refine gp_eff rfl (s_call (cwrite_t b s 1 (s.word 0) (by decide)) (.cons (by repeat ((conv => arg 2; whnf); first | with_reducible exact .here | ((with_reducible refine Del.hereC ?_); rfl) | ((with_reducible refine Del.hereS ?_ ?_ ?_) <;> rfl) | exact .here | apply Del.there)) (.nil))) ?_
      rintro _ _ ⟨_, ⟨rfl, rfl⟩, rfl⟩
      refine gp_ev rfl (e_as) ?_
      refine gp_ev rfl (e_as) ?_
      refine gp_nil ?_
      refine gc_ret ?_
      exact ret2 (L1 := [memP b (s.slot 1 (s.word 0)).2]) rfl (by (conv => lhs; whnf); try rfl) (by (conv => lhs; whnf); try rfl) (by have hv : s.val = s.word 0 := by { unfold MemS.val; rw [if_pos (by omega), if_neg (by omega)] }; have hf : s.fix = s.slot 1 (s.word 0) := by { unfold MemS.fix MemS.fixW; rw [if_pos (by omega), if_neg (by omega)]; rfl }; unfold memV; rw [hv, hf]; exact And.intro rfl rfl) (fun _ h => h.fin (by repeat ((conv => arg 1; whnf); (conv => arg 2; whnf); first | with_reducible exact .done | exact Fin.all _ | refine .cons (by repeat ((conv => arg 2; whnf); first | with_reducible exact .here | ((with_reducible refine Del.hereC ?_); rfl) | ((with_reducible refine Del.hereS ?_ ?_ ?_) <;> rfl) | exact .here | apply Del.there)) ?_ | refine .drop ?_)))
  · skip
    refine g_not ?_
    refine g_not ?_
    refine g_ev (e_pk rfl) ?_
    refine g_ev (e_as) ?_
    refine g_nil ?_
    refine gc_false ?_
    refine gc_seq ?_
    refine gc_region ?_
    refine g_ev (e_iap Try.underlying90 Try.sizeOf4 rfl rfl rfl (by simp)) ?_
    refine g_ev (e_ld Try.underlying4 rfl (by repeat ((conv => arg 2; whnf); first | with_reducible exact .here | ((with_reducible refine Del.hereC ?_); rfl) | ((with_reducible refine Del.hereS ?_ ?_ ?_) <;> rfl) | exact .here | apply Del.there)) rfl) ?_
    refine g_ev (e_as) ?_
    refine g_nil ?_
    refine gc_false ?_ (hc := by (conv => lhs; whnf); exact congrArg Value.bool (decide_eq_false c21))
    refine gc_seq ?_
    refine gc_region ?_
    refine g_ev (e_iap Try.underlying90 Try.sizeOf4 rfl rfl rfl (by simp)) ?_
    refine g_ev (e_ld Try.underlying4 rfl (by repeat ((conv => arg 2; whnf); first | with_reducible exact .here | ((with_reducible refine Del.hereC ?_); rfl) | ((with_reducible refine Del.hereS ?_ ?_ ?_) <;> rfl) | exact .here | apply Del.there)) rfl) ?_
    refine g_ev (e_as) ?_
    refine g_nil ?_
    first | refine gc_dec rfl (fun c39 => ?_) (fun c39 => ?_) | refine gc_ndec rfl (fun c39 => ?_) (fun c39 => ?_) | refine gc_cond rfl (fun c39 => ?_) (fun c39 => ?_)
    · skip
      refine gc_seq ?_
      refine gc_draw (D := [memP b s]) (fin := none) (plan := [(true, 0), (true, 1), (true, 2), (true, 3), (true, 4), (false, 5), (true, 6), (true, 7)]) rfl (by kernel_rfl) (by kernel_rfl) rfl (.cons (by repeat ((conv => arg 2; whnf); first | with_reducible exact .here | ((with_reducible refine Del.hereC ?_); rfl) | ((with_reducible refine Del.hereS ?_ ?_ ?_) <;> rfl) | exact .here | apply Del.there)) .nil) ?_
      refine gp_ev rfl (e_iap Try.underlying72 Try.sizeOf35 rfl rfl rfl (by simp)) ?_
      refine gp_ev rfl (e_ld Try.underlying35 rfl (by repeat ((conv => arg 2; whnf); first | with_reducible exact .here | ((with_reducible refine Del.hereC ?_); rfl) | ((with_reducible refine Del.hereS ?_ ?_ ?_) <;> rfl) | exact .here | apply Del.there)) rfl) ?_
      refine gp_ev rfl (e_mv) ?_
      refine gp_ev rfl (e_iap Try.underlying72 Try.sizeOf35 rfl rfl rfl (by simp)) ?_
      refine gp_ev rfl (e_ld Try.underlying35 rfl (by repeat ((conv => arg 2; whnf); first | with_reducible exact .here | ((with_reducible refine Del.hereC ?_); rfl) | ((with_reducible refine Del.hereS ?_ ?_ ?_) <;> rfl) | exact .here | apply Del.there)) rfl) ?_
      refine gp_eff rfl (s_call (cwrite_t b s 0 (s.word 1) (by decide)) (.cons (by repeat ((conv => arg 2; whnf); first | with_reducible exact .here | ((with_reducible refine Del.hereC ?_); rfl) | ((with_reducible refine Del.hereS ?_ ?_ ?_) <;> rfl) | exact .here | apply Del.there)) (.nil))) ?_
      rintro _ _ ⟨_, ⟨rfl, rfl⟩, rfl⟩
      refine gp_ev rfl (e_as) ?_
      refine gp_ev rfl (e_as) ?_
      refine gp_nil ?_
      refine gc_ret ?_
      exact ret2 (L1 := [memP b (s.slot 0 (s.word 1)).2]) rfl (by (conv => lhs; whnf); try rfl) (by (conv => lhs; whnf); try rfl) (by have hv : s.val = s.word 1 := by { unfold MemS.val; rw [if_neg (by omega), if_pos (by omega)] }; have hf : s.fix = s.slot 0 (s.word 1) := by { unfold MemS.fix MemS.fixW; rw [if_neg (by omega), if_pos (by omega)]; rfl }; unfold memV; rw [hv, hf]; exact And.intro rfl rfl) (fun _ h => h.fin (by repeat ((conv => arg 1; whnf); (conv => arg 2; whnf); first | with_reducible exact .done | exact Fin.all _ | refine .cons (by repeat ((conv => arg 2; whnf); first | with_reducible exact .here | ((with_reducible refine Del.hereC ?_); rfl) | ((with_reducible refine Del.hereS ?_ ?_ ?_) <;> rfl) | exact .here | apply Del.there)) ?_ | refine .drop ?_)))
    · skip
      refine gc_skip ?_
      refine gc_seq ?_
      refine gc_seq ?_
      refine gc_region ?_
      refine g_ev (e_mv) ?_
      refine g_nil ?_
      refine gc_block ?_
      refine gl_start ?_
      refine gl_round ?_
      refine gc_seq ?_
      refine gc_region ?_
      refine g_ev (e_lt rfl rfl) ?_
      refine g_nil ?_
      refine gc_seq ?_
      refine gc_true ?_ (hc := by first | ((conv => lhs; whnf); done) | ((conv => lhs; whnf); rfl))
      refine gc_skip ?_
      refine gc_seq ?_
      refine gc_block ?_
      refine gc_seq ?_
      refine gc_region ?_
      refine g_ev (e_mv) ?_
      refine g_ev (e_as) ?_
      refine g_nil ?_
      refine gc_seq ?_
      refine gc_region ?_
      refine g_ev (e_mv) ?_
      refine g_ev (e_iap Try.underlying71 Try.sizeOf5 rfl rfl (q := 0) rfl (by decide)) ?_
      refine g_ev (e_ld Try.underlying5 rfl (by repeat ((conv => arg 2; whnf); first | with_reducible exact .here | ((with_reducible refine Del.hereC ?_); rfl) | ((with_reducible refine Del.hereS ?_ ?_ ?_) <;> rfl) | exact .here | apply Del.there)) rfl) ?_
      refine g_ev (e_ne rfl rfl) ?_
      refine g_nil ?_
      first | refine gc_dec rfl (fun c54_0 => ?_) (fun c54_0 => ?_) | refine gc_ndec rfl (fun c54_0 => ?_) (fun c54_0 => ?_) | refine gc_cond rfl (fun c54_0 => ?_) (fun c54_0 => ?_)
      · skip
        refine gc_seq ?_
        refine gc_region ?_
        refine g_ev (e_mv) ?_
        refine g_ev (e_mv) ?_
        refine g_ev ((e_mulw rfl rfl).to (v' := .int .i64 (5 * 0 : Int)) rfl) ?_
        refine g_eff (s_call (write_t b _ _ 0) (.cons (by repeat ((conv => arg 2; whnf); first | with_reducible exact .here | ((with_reducible refine Del.hereC ?_); rfl) | ((with_reducible refine Del.hereS ?_ ?_ ?_) <;> rfl) | exact .here | apply Del.there)) (.nil))) ?_
        rintro _ _ ⟨_, ⟨rfl, rfl⟩, rfl⟩
        refine g_ev (e_as) ?_
        refine g_nil ?_
        refine gc_seq ?_
        refine gc_region ?_
        refine g_ev (e_mv) ?_
        refine g_ev (e_ne rfl rfl) ?_
        refine g_nil ?_
        first | refine gc_dec rfl (fun c60_0 => ?_) (fun c60_0 => ?_) | refine gc_ndec rfl (fun c60_0 => ?_) (fun c60_0 => ?_) | refine gc_cond rfl (fun c60_0 => ?_) (fun c60_0 => ?_)
        · skip
          refine gc_seq ?_
          refine gc_region ?_
          refine g_ev (e_mv) ?_
          refine g_ev (e_as) ?_
          refine g_ev (e_as) ?_
          refine g_nil ?_
          refine gc_ret ?_
          exact ret2 (L1 := [memP b (s.write 0 0 : Int × MemS).2]) rfl (by (conv => lhs; whnf); try rfl) (by (conv => lhs; whnf); try rfl) (by have hv : s.val = 0 := by { unfold MemS.val; rw [if_neg (by omega), if_neg (by omega)] }; have hf : s.fix = s.write 0 0 := by { unfold MemS.fix MemS.fixW; rw [if_neg (by omega), if_neg (by omega), if_neg (by omega)]; exact wseq_stop c60_0 }; unfold memV; rw [hv, hf]; exact And.intro rfl rfl) (fun _ h => h.fin (by repeat ((conv => arg 1; whnf); (conv => arg 2; whnf); first | with_reducible exact .done | exact Fin.all _ | refine .cons (by repeat ((conv => arg 2; whnf); first | with_reducible exact .here | ((with_reducible refine Del.hereC ?_); rfl) | ((with_reducible refine Del.hereS ?_ ?_ ?_) <;> rfl) | exact .here | apply Del.there)) ?_ | refine .drop ?_)))
        · skip
          refine gc_skip ?_
          refine gc_region ?_
          refine g_ev ((e_addw rfl rfl).to (v' := .int .i64 (1 : Int)) rfl) ?_
          refine g_ev (e_mv) ?_
          refine g_nil ?_
          refine gl_round ?_
          refine gc_seq ?_
          refine gc_region ?_
          refine g_ev (e_lt rfl rfl) ?_
          refine g_nil ?_
          refine gc_seq ?_
          refine gc_true ?_ (hc := by first | ((conv => lhs; whnf); done) | ((conv => lhs; whnf); rfl))
          refine gc_skip ?_
          refine gc_seq ?_
          refine gc_block ?_
          refine gc_seq ?_
          refine gc_region ?_
          refine g_ev (e_mv) ?_
          refine g_ev (e_as) ?_
          refine g_nil ?_
          refine gc_seq ?_
          refine gc_region ?_
          refine g_ev (e_mv) ?_
          refine g_ev (e_iap Try.underlying71 Try.sizeOf5 rfl rfl (q := 1) rfl (by decide)) ?_
          refine g_ev (e_ld Try.underlying5 rfl (by repeat ((conv => arg 2; whnf); first | with_reducible exact .here | ((with_reducible refine Del.hereC ?_); rfl) | ((with_reducible refine Del.hereS ?_ ?_ ?_) <;> rfl) | exact .here | apply Del.there)) rfl) ?_
          refine g_ev (e_ne rfl rfl) ?_
          refine g_nil ?_
          first | refine gc_dec rfl (fun c54_1 => ?_) (fun c54_1 => ?_) | refine gc_ndec rfl (fun c54_1 => ?_) (fun c54_1 => ?_) | refine gc_cond rfl (fun c54_1 => ?_) (fun c54_1 => ?_)
          · skip
            refine gc_seq ?_
            refine gc_region ?_
            refine g_ev (e_mv) ?_
            refine g_ev (e_mv) ?_
            refine g_ev ((e_mulw rfl rfl).to (v' := .int .i64 (5 * 1 : Int)) rfl) ?_
            refine g_eff (s_call (write_t b _ _ 0) (.cons (by repeat ((conv => arg 2; whnf); first | with_reducible exact .here | ((with_reducible refine Del.hereC ?_); rfl) | ((with_reducible refine Del.hereS ?_ ?_ ?_) <;> rfl) | exact .here | apply Del.there)) (.nil))) ?_
            rintro _ _ ⟨_, ⟨rfl, rfl⟩, rfl⟩
            refine g_ev (e_as) ?_
            refine g_nil ?_
            refine gc_seq ?_
            refine gc_region ?_
            refine g_ev (e_mv) ?_
            refine g_ev (e_ne rfl rfl) ?_
            refine g_nil ?_
            first | refine gc_dec rfl (fun c60_1 => ?_) (fun c60_1 => ?_) | refine gc_ndec rfl (fun c60_1 => ?_) (fun c60_1 => ?_) | refine gc_cond rfl (fun c60_1 => ?_) (fun c60_1 => ?_)
            · skip
              refine gc_seq ?_
              refine gc_region ?_
              refine g_ev (e_mv) ?_
              refine g_ev (e_as) ?_
              refine g_ev (e_as) ?_
              refine g_nil ?_
              refine gc_ret ?_
              exact ret2 (L1 := [memP b ((s.write 0 0).2.write 5 0 : Int × MemS).2]) rfl (by (conv => lhs; whnf); try rfl) (by (conv => lhs; whnf); try rfl) (by have hv : s.val = 0 := by { unfold MemS.val; rw [if_neg (by omega), if_neg (by omega)] }; have hf : s.fix = (s.write 0 0).2.write 5 0 := by { unfold MemS.fix MemS.fixW; rw [if_neg (by omega), if_neg (by omega), if_neg (by omega), if_neg (by omega)]; exact (wseq_go c60_0).trans wseq_last }; unfold memV; rw [hv, hf]; exact And.intro rfl rfl) (fun _ h => h.fin (by repeat ((conv => arg 1; whnf); (conv => arg 2; whnf); first | with_reducible exact .done | exact Fin.all _ | refine .cons (by repeat ((conv => arg 2; whnf); first | with_reducible exact .here | ((with_reducible refine Del.hereC ?_); rfl) | ((with_reducible refine Del.hereS ?_ ?_ ?_) <;> rfl) | exact .here | apply Del.there)) ?_ | refine .drop ?_)))
            · skip
              refine gc_skip ?_
              refine gc_region ?_
              refine g_ev ((e_addw rfl rfl).to (v' := .int .i64 (2 : Int)) rfl) ?_
              refine g_ev (e_mv) ?_
              refine g_nil ?_
              refine gl_round ?_
              refine gc_seq ?_
              refine gc_region ?_
              refine g_ev (e_lt rfl rfl) ?_
              refine g_nil ?_
              refine gc_seq ?_
              refine gc_false ?_ (hc := by first | ((conv => lhs; whnf); done) | ((conv => lhs; whnf); rfl))
              refine gc_exit ?_
              refine gc_seq ?_
              refine gc_region ?_
              refine g_ev (e_as) ?_
              refine g_ev (e_as) ?_
              refine g_nil ?_
              refine gc_ret ?_
              exact ret2 (x := .int .i64 ((s.write 0 0).2.write 5 0).1) (L1 := [memP b ((s.write 0 0).2.write 5 0 : Int × MemS).2]) rfl (by (conv => lhs; whnf); try rfl) (by (conv => lhs; whnf); exact congrArg _ c60_1.symm) (by have hv : s.val = 0 := by { unfold MemS.val; rw [if_neg (by omega), if_neg (by omega)] }; have hf : s.fix = (s.write 0 0).2.write 5 0 := by { unfold MemS.fix MemS.fixW; rw [if_neg (by omega), if_neg (by omega), if_neg (by omega), if_neg (by omega)]; exact (wseq_go c60_0).trans wseq_last }; unfold memV; rw [hv, hf]; exact And.intro rfl rfl) (fun _ h => h.fin (by repeat ((conv => arg 1; whnf); (conv => arg 2; whnf); first | with_reducible exact .done | exact Fin.all _ | refine .cons (by repeat ((conv => arg 2; whnf); first | with_reducible exact .here | ((with_reducible refine Del.hereC ?_); rfl) | ((with_reducible refine Del.hereS ?_ ?_ ?_) <;> rfl) | exact .here | apply Del.there)) ?_ | refine .drop ?_)))
          · skip
            refine gc_skip ?_
            refine gc_region ?_
            refine g_ev ((e_addw rfl rfl).to (v' := .int .i64 (2 : Int)) rfl) ?_
            refine g_ev (e_mv) ?_
            refine g_nil ?_
            refine gl_round ?_
            refine gc_seq ?_
            refine gc_region ?_
            refine g_ev (e_lt rfl rfl) ?_
            refine g_nil ?_
            refine gc_seq ?_
            refine gc_false ?_ (hc := by first | ((conv => lhs; whnf); done) | ((conv => lhs; whnf); rfl))
            refine gc_exit ?_
            refine gc_seq ?_
            refine gc_region ?_
            refine g_ev (e_as) ?_
            refine g_ev (e_as) ?_
            refine g_nil ?_
            refine gc_ret ?_
            exact ret2 (L1 := [memP b ((0, (s.write 0 0).2) : Int × MemS).2]) rfl (by (conv => lhs; whnf); try rfl) (by (conv => lhs; whnf); try rfl) (by have hv : s.val = 0 := by { unfold MemS.val; rw [if_neg (by omega), if_neg (by omega)] }; have hf : s.fix = (0, (s.write 0 0).2) := by { unfold MemS.fix MemS.fixW; rw [if_neg (by omega), if_neg (by omega), if_neg (by omega), if_pos (by omega)]; exact wseq_go c60_0 }; unfold memV; rw [hv, hf]; exact And.intro rfl rfl) (fun _ h => h.fin (by repeat ((conv => arg 1; whnf); (conv => arg 2; whnf); first | with_reducible exact .done | exact Fin.all _ | refine .cons (by repeat ((conv => arg 2; whnf); first | with_reducible exact .here | ((with_reducible refine Del.hereC ?_); rfl) | ((with_reducible refine Del.hereS ?_ ?_ ?_) <;> rfl) | exact .here | apply Del.there)) ?_ | refine .drop ?_)))
      · skip
        refine gc_skip ?_
        refine gc_region ?_
        refine g_ev ((e_addw rfl rfl).to (v' := .int .i64 (1 : Int)) rfl) ?_
        refine g_ev (e_mv) ?_
        refine g_nil ?_
        refine gl_round ?_
        refine gc_seq ?_
        refine gc_region ?_
        refine g_ev (e_lt rfl rfl) ?_
        refine g_nil ?_
        refine gc_seq ?_
        refine gc_true ?_ (hc := by first | ((conv => lhs; whnf); done) | ((conv => lhs; whnf); rfl))
        refine gc_skip ?_
        refine gc_seq ?_
        refine gc_block ?_
        refine gc_seq ?_
        refine gc_region ?_
        refine g_ev (e_mv) ?_
        refine g_ev (e_as) ?_
        refine g_nil ?_
        refine gc_seq ?_
        refine gc_region ?_
        refine g_ev (e_mv) ?_
        refine g_ev (e_iap Try.underlying71 Try.sizeOf5 rfl rfl (q := 1) rfl (by decide)) ?_
        refine g_ev (e_ld Try.underlying5 rfl (by repeat ((conv => arg 2; whnf); first | with_reducible exact .here | ((with_reducible refine Del.hereC ?_); rfl) | ((with_reducible refine Del.hereS ?_ ?_ ?_) <;> rfl) | exact .here | apply Del.there)) rfl) ?_
        refine g_ev (e_ne rfl rfl) ?_
        refine g_nil ?_
        first | refine gc_dec rfl (fun c54_1 => ?_) (fun c54_1 => ?_) | refine gc_ndec rfl (fun c54_1 => ?_) (fun c54_1 => ?_) | refine gc_cond rfl (fun c54_1 => ?_) (fun c54_1 => ?_)
        · skip
          refine gc_seq ?_
          refine gc_region ?_
          refine g_ev (e_mv) ?_
          refine g_ev (e_mv) ?_
          refine g_ev ((e_mulw rfl rfl).to (v' := .int .i64 (5 * 1 : Int)) rfl) ?_
          refine g_eff (s_call (write_t b _ _ 0) (.cons (by repeat ((conv => arg 2; whnf); first | with_reducible exact .here | ((with_reducible refine Del.hereC ?_); rfl) | ((with_reducible refine Del.hereS ?_ ?_ ?_) <;> rfl) | exact .here | apply Del.there)) (.nil))) ?_
          rintro _ _ ⟨_, ⟨rfl, rfl⟩, rfl⟩
          refine g_ev (e_as) ?_
          refine g_nil ?_
          refine gc_seq ?_
          refine gc_region ?_
          refine g_ev (e_mv) ?_
          refine g_ev (e_ne rfl rfl) ?_
          refine g_nil ?_
          first | refine gc_dec rfl (fun c60_1 => ?_) (fun c60_1 => ?_) | refine gc_ndec rfl (fun c60_1 => ?_) (fun c60_1 => ?_) | refine gc_cond rfl (fun c60_1 => ?_) (fun c60_1 => ?_)
          · skip
            refine gc_seq ?_
            refine gc_region ?_
            refine g_ev (e_mv) ?_
            refine g_ev (e_as) ?_
            refine g_ev (e_as) ?_
            refine g_nil ?_
            refine gc_ret ?_
            exact ret2 (L1 := [memP b (s.write 5 0 : Int × MemS).2]) rfl (by (conv => lhs; whnf); try rfl) (by (conv => lhs; whnf); try rfl) (by have hv : s.val = 0 := by { unfold MemS.val; rw [if_neg (by omega), if_neg (by omega)] }; have hf : s.fix = s.write 5 0 := by { unfold MemS.fix MemS.fixW; rw [if_neg (by omega), if_neg (by omega), if_pos (by omega), if_neg (by omega)]; exact wseq_last }; unfold memV; rw [hv, hf]; exact And.intro rfl rfl) (fun _ h => h.fin (by repeat ((conv => arg 1; whnf); (conv => arg 2; whnf); first | with_reducible exact .done | exact Fin.all _ | refine .cons (by repeat ((conv => arg 2; whnf); first | with_reducible exact .here | ((with_reducible refine Del.hereC ?_); rfl) | ((with_reducible refine Del.hereS ?_ ?_ ?_) <;> rfl) | exact .here | apply Del.there)) ?_ | refine .drop ?_)))
          · skip
            refine gc_skip ?_
            refine gc_region ?_
            refine g_ev ((e_addw rfl rfl).to (v' := .int .i64 (2 : Int)) rfl) ?_
            refine g_ev (e_mv) ?_
            refine g_nil ?_
            refine gl_round ?_
            refine gc_seq ?_
            refine gc_region ?_
            refine g_ev (e_lt rfl rfl) ?_
            refine g_nil ?_
            refine gc_seq ?_
            refine gc_false ?_ (hc := by first | ((conv => lhs; whnf); done) | ((conv => lhs; whnf); rfl))
            refine gc_exit ?_
            refine gc_seq ?_
            refine gc_region ?_
            refine g_ev (e_as) ?_
            refine g_ev (e_as) ?_
            refine g_nil ?_
            refine gc_ret ?_
            exact ret2 (x := .int .i64 (s.write 5 0).1) (L1 := [memP b (s.write 5 0 : Int × MemS).2]) rfl (by (conv => lhs; whnf); try rfl) (by (conv => lhs; whnf); exact congrArg _ c60_1.symm) (by have hv : s.val = 0 := by { unfold MemS.val; rw [if_neg (by omega), if_neg (by omega)] }; have hf : s.fix = s.write 5 0 := by { unfold MemS.fix MemS.fixW; rw [if_neg (by omega), if_neg (by omega), if_pos (by omega), if_neg (by omega)]; exact wseq_last }; unfold memV; rw [hv, hf]; exact And.intro rfl rfl) (fun _ h => h.fin (by repeat ((conv => arg 1; whnf); (conv => arg 2; whnf); first | with_reducible exact .done | exact Fin.all _ | refine .cons (by repeat ((conv => arg 2; whnf); first | with_reducible exact .here | ((with_reducible refine Del.hereC ?_); rfl) | ((with_reducible refine Del.hereS ?_ ?_ ?_) <;> rfl) | exact .here | apply Del.there)) ?_ | refine .drop ?_)))
        · skip
          refine gc_skip ?_
          refine gc_region ?_
          refine g_ev ((e_addw rfl rfl).to (v' := .int .i64 (2 : Int)) rfl) ?_
          refine g_ev (e_mv) ?_
          refine g_nil ?_
          refine gl_round ?_
          refine gc_seq ?_
          refine gc_region ?_
          refine g_ev (e_lt rfl rfl) ?_
          refine g_nil ?_
          refine gc_seq ?_
          refine gc_false ?_ (hc := by first | ((conv => lhs; whnf); done) | ((conv => lhs; whnf); rfl))
          refine gc_exit ?_
          refine gc_seq ?_
          refine gc_region ?_
          refine g_ev (e_as) ?_
          refine g_ev (e_as) ?_
          refine g_nil ?_
          refine gc_ret ?_
          exact ret2 (L1 := [memP b ((0, s) : Int × MemS).2]) rfl (by (conv => lhs; whnf); try rfl) (by (conv => lhs; whnf); try rfl) (by have hv : s.val = 0 := by { unfold MemS.val; rw [if_neg (by omega), if_neg (by omega)] }; have hf : s.fix = (0, s) := by { unfold MemS.fix MemS.fixW; rw [if_neg (by omega), if_neg (by omega), if_pos (by omega), if_pos (by omega)]; exact rfl }; unfold memV; rw [hv, hf]; exact And.intro rfl rfl) (fun _ h => h.fin (by repeat ((conv => arg 1; whnf); (conv => arg 2; whnf); first | with_reducible exact .done | exact Fin.all _ | refine .cons (by repeat ((conv => arg 2; whnf); first | with_reducible exact .here | ((with_reducible refine Del.hereC ?_); rfl) | ((with_reducible refine Del.hereS ?_ ?_ ?_) <;> rfl) | exact .here | apply Del.there)) ?_ | refine .drop ?_)))


theorem cread0 (b : Nat) (s : MemS) (hk : 10 ≤ s.bs.length) (hm : s.bs.length ≤ 4096) (ho : s.off = false) : Tri Try.prog 29 #[.pointer (some ⟨b, 0, none⟩), .int .i64 0] [memP b s] (isR (.tuple #[.int .u8 ((s.by 0 : Nat) : Int), .int .u32 ((s.word 0 : Nat) : Int), .int .i64 0]) [memP b s]) := cread_on b s 0 (by omega) hm ho
theorem cread1 (b : Nat) (s : MemS) (hk : 10 ≤ s.bs.length) (hm : s.bs.length ≤ 4096) (ho : s.off = false) : Tri Try.prog 29 #[.pointer (some ⟨b, 0, none⟩), .int .i64 1] [memP b s] (isR (.tuple #[.int .u8 ((s.by 5 : Nat) : Int), .int .u32 ((s.word 1 : Nat) : Int), .int .i64 0]) [memP b s]) := cread_on b s 1 (by omega) hm ho
abbrev cellB (bc b mx v : Nat) (dead : Bool) : HProp := blk bc 77 [.pointer (some ⟨b, 0, none⟩), .int .u32 (mx : Int), .int .u32 (v : Int), .bool dead]
def MemS.free (s : MemS) : Nat := if s.by 0 = 165 ∧ (s.by 5 ≠ 165 ∨ s.word 1 < s.word 0) then 1 else 0
theorem MemS.free_le (s : MemS) : s.free ≤ 1 := by unfold MemS.free; split <;> omega
def MemS.open (s : MemS) (mx : Nat) : Int × MemS := if mx = 0 ∨ s.bs.length < 10 then (2, s) else if s.off = true then (70, s) else s.fix
def openR (r : Int × MemS) (mem : MemS → HProp) (cell : Nat → HProp) (v : Value) (L : List HProp) : Prop :=
  if r.1 = 0 then ∃ bc, v = .tuple #[.pointer (some ⟨bc, 0, none⟩), .int .i64 0] ∧ L = [cell bc, mem r.2] else v = .tuple #[.pointer none, .int .i64 r.1] ∧ L = [mem r.2]
def MemS.next (s : MemS) (mx v : Nat) (dead : Bool) : Nat × Int × MemS × Nat × Bool :=
  if dead = true ∨ s.off = true then (0, 70, s, v, dead) else if mx ≤ v then (0, 80, s, v, dead) else
    if (s.slot s.free (v + 1)).1 = 0 then (v + 1, 0, (s.slot s.free (v + 1)).2, v + 1, dead) else (0, 70, (s.slot s.free (v + 1)).2, v, true)
def nextR (mem : MemS → HProp) (cell : Nat → Bool → HProp) (n : Nat × Int × MemS × Nat × Bool) : Value → List HProp → Prop :=
  isR (.tuple #[.int .u32 (n.1 : Int), .int .i64 n.2.1]) [cell n.2.2.2.1 n.2.2.2.2, mem n.2.2.1]

theorem spare_c (bc b : Nat) (s : MemS) (mx v : Nat) (dead : Bool) (hl : 10 ≤ s.bs.length) (hm : s.bs.length ≤ 4096) (ho : s.off = false) : Tri Try.prog 37 #[.pointer (some ⟨bc, 0, none⟩)] [cellB bc b mx v dead, memP b s] (isR (.tuple #[.int .i64 (s.free : Int), .int .i64 0]) [cellB bc b mx v dead, memP b s]) := by
  refine tri_of Try.call37 Try.func37 rfl fun B F => ?_
  refine gc_seq ?_
  refine gc_region ?_
  refine g_ev (e_as) ?_
  refine g_ev (e_as) ?_
  refine g_nil ?_
  refine gc_seq ?_
  refine gc_region ?_
  refine g_eff (s_al Try.zeroValue71) ?_
  rintro _ _ ⟨b4, rfl, rfl⟩
  refine g_nil ?_
  refine gc_seq ?_
  refine gc_region ?_
  refine g_eff (s_al Try.zeroValue72) ?_
  rintro _ _ ⟨b5, rfl, rfl⟩
  refine g_nil ?_
  refine gc_seq ?_
  refine gc_seq ?_
  refine gc_region ?_
  refine g_ev (e_mv) ?_
  refine g_nil ?_
  refine gc_block ?_
  refine gl_start ?_
  refine gl_round ?_
  refine gc_seq ?_
  refine gc_region ?_
  refine g_ev (e_lt rfl rfl) ?_
  refine g_nil ?_
  refine gc_seq ?_
  refine gc_true ?_ (hc := by first | ((conv => lhs; whnf); done) | ((conv => lhs; whnf); rfl))
  refine gc_skip ?_
  refine gc_seq ?_
  refine gc_block ?_
  refine gc_seq ?_
  refine gc_region ?_
  refine g_ev (e_mv) ?_
  refine g_ev (e_as) ?_
  refine g_nil ?_
  refine gc_seq ?_
  refine gc_region ?_
  refine g_ev (e_mv) ?_
  refine g_ev (e_nc rfl) ?_
  refine g_ev (e_fa Try.underlying77 rfl rfl Try.sizeOf26) ?_
  refine g_ev (e_ld Try.underlying26 rfl (by repeat ((conv => arg 2; whnf); first | with_reducible exact .here | ((with_reducible refine Del.hereC ?_); rfl) | ((with_reducible refine Del.hereS ?_ ?_ ?_) <;> rfl) | exact .here | apply Del.there)) rfl) ?_
  refine g_ev (e_mv) ?_
  refine g_eff (s_call (cread0 b s (by omega) hm ho) (.cons (by repeat ((conv => arg 2; whnf); first | with_reducible exact .here | ((with_reducible refine Del.hereC ?_); rfl) | ((with_reducible refine Del.hereS ?_ ?_ ?_) <;> rfl) | exact .here | apply Del.there)) (.nil))) ?_
  rintro _ _ ⟨_, ⟨rfl, rfl⟩, rfl⟩
  refine g_ev (e_mv) ?_
  refine g_ev (e_ex rfl) ?_
  refine g_ev (e_ex rfl) ?_
  refine g_ev (e_ex rfl) ?_
  refine g_ev (e_as) ?_
  refine g_ev (e_as) ?_
  refine g_ev (e_as) ?_
  refine g_nil ?_
  refine gc_seq ?_
  refine gc_seq ?_
  refine gc_region ?_
  refine g_ev (e_mv) ?_
  refine g_ev (e_ne rfl rfl) ?_
  refine g_nil ?_
  first | refine gc_dec rfl (fun c24_0 => ?_) (fun c24_0 => ?_) | refine gc_ndec rfl (fun c24_0 => ?_) (fun c24_0 => ?_) | refine gc_cond rfl (fun c24_0 => ?_) (fun c24_0 => ?_)
  · exact absurd rfl c24_0
  · skip
    refine gc_skip ?_
    refine gc_region ?_
    refine g_ev (e_mv) ?_
    refine g_ev (e_mv) ?_
    refine g_ev (e_mv) ?_
    refine g_ev (e_mv) ?_
    refine g_ev (e_iap Try.underlying71 Try.sizeOf5 rfl rfl (q := 0) rfl (by decide)) ?_
    refine g_eff (s_st Try.sizeOf5 rfl (by repeat ((conv => arg 3; whnf); first | with_reducible exact .here | apply Turn.there))) ?_
    rintro _ _ ⟨rfl, rfl⟩
    refine g_ev (e_iap Try.underlying72 Try.sizeOf35 rfl rfl (q := 0) rfl (by decide)) ?_
    refine g_eff (s_st Try.sizeOf35 rfl (by repeat ((conv => arg 3; whnf); first | with_reducible exact .here | apply Turn.there))) ?_
    rintro _ _ ⟨rfl, rfl⟩
    refine g_nil ?_
    refine gc_region ?_
    refine g_ev ((e_addw rfl rfl).to (v' := .int .i64 (1 : Int)) rfl) ?_
    refine g_ev (e_mv) ?_
    refine g_nil ?_
    refine gl_round ?_
    refine gc_seq ?_
    refine gc_region ?_
    refine g_ev (e_lt rfl rfl) ?_
    refine g_nil ?_
    refine gc_seq ?_
    refine gc_true ?_ (hc := by first | ((conv => lhs; whnf); done) | ((conv => lhs; whnf); rfl))
    refine gc_skip ?_
    refine gc_seq ?_
    refine gc_block ?_
    refine gc_seq ?_
    refine gc_region ?_
    refine g_ev (e_mv) ?_
    refine g_ev (e_as) ?_
    refine g_nil ?_
    refine gc_seq ?_
    refine gc_region ?_
    refine g_ev (e_mv) ?_
    refine g_ev (e_nc rfl) ?_
    refine g_ev (e_fa Try.underlying77 rfl rfl Try.sizeOf26) ?_
    refine g_ev (e_ld Try.underlying26 rfl (by repeat ((conv => arg 2; whnf); first | with_reducible exact .here | ((with_reducible refine Del.hereC ?_); rfl) | ((with_reducible refine Del.hereS ?_ ?_ ?_) <;> rfl) | exact .here | apply Del.there)) rfl) ?_
    refine g_ev (e_mv) ?_
    refine g_eff (s_call (cread1 b s (by omega) hm ho) (.cons (by repeat ((conv => arg 2; whnf); first | with_reducible exact .here | ((with_reducible refine Del.hereC ?_); rfl) | ((with_reducible refine Del.hereS ?_ ?_ ?_) <;> rfl) | exact .here | apply Del.there)) (.nil))) ?_
    rintro _ _ ⟨_, ⟨rfl, rfl⟩, rfl⟩
    refine g_ev (e_mv) ?_
    refine g_ev (e_ex rfl) ?_
    refine g_ev (e_ex rfl) ?_
    refine g_ev (e_ex rfl) ?_
    refine g_ev (e_as) ?_
    refine g_ev (e_as) ?_
    refine g_ev (e_as) ?_
    refine g_nil ?_
    refine gc_seq ?_
    refine gc_seq ?_
    refine gc_region ?_
    refine g_ev (e_mv) ?_
    refine g_ev (e_ne rfl rfl) ?_
    refine g_nil ?_
    first | refine gc_dec rfl (fun c24_1 => ?_) (fun c24_1 => ?_) | refine gc_ndec rfl (fun c24_1 => ?_) (fun c24_1 => ?_) | refine gc_cond rfl (fun c24_1 => ?_) (fun c24_1 => ?_)
    · exact absurd rfl c24_1
    · skip
      refine gc_skip ?_
      refine gc_region ?_
      refine g_ev (e_mv) ?_
      refine g_ev (e_mv) ?_
      refine g_ev (e_mv) ?_
      refine g_ev (e_mv) ?_
      refine g_ev (e_iap Try.underlying71 Try.sizeOf5 rfl rfl (q := 1) rfl (by decide)) ?_
      refine g_eff (s_st Try.sizeOf5 rfl (by repeat ((conv => arg 3; whnf); first | with_reducible exact .here | apply Turn.there))) ?_
      rintro _ _ ⟨rfl, rfl⟩
      refine g_ev (e_iap Try.underlying72 Try.sizeOf35 rfl rfl (q := 1) rfl (by decide)) ?_
      refine g_eff (s_st Try.sizeOf35 rfl (by repeat ((conv => arg 3; whnf); first | with_reducible exact .here | apply Turn.there))) ?_
      rintro _ _ ⟨rfl, rfl⟩
      refine g_nil ?_
      refine gc_region ?_
      refine g_ev ((e_addw rfl rfl).to (v' := .int .i64 (2 : Int)) rfl) ?_
      refine g_ev (e_mv) ?_
      refine g_nil ?_
      refine gl_round ?_
      refine gc_seq ?_
      refine gc_region ?_
      refine g_ev (e_lt rfl rfl) ?_
      refine g_nil ?_
      refine gc_seq ?_
      refine gc_false ?_ (hc := by first | ((conv => lhs; whnf); done) | ((conv => lhs; whnf); rfl))
      refine gc_exit ?_
      refine gc_seq ?_
      refine gc_seq ?_
      refine gc_region ?_
      refine g_ev (e_iap Try.underlying71 Try.sizeOf5 rfl rfl rfl (by simp)) ?_
      refine g_ev (e_ld Try.underlying5 rfl (by repeat ((conv => arg 2; whnf); first | with_reducible exact .here | ((with_reducible refine Del.hereC ?_); rfl) | ((with_reducible refine Del.hereS ?_ ?_ ?_) <;> rfl) | exact .here | apply Del.there)) rfl) ?_
      refine g_ev (e_eq rfl rfl) ?_
      refine g_ev (e_mv) ?_
      first | refine g_dec 36 rfl (fun c36 => ?_) (fun c36 => ?_) | refine g_ndec 36 rfl (fun c36 => ?_) (fun c36 => ?_) | refine g_bool 36 rfl (fun c36 => ?_) (fun c36 => ?_)
      · skip
        refine g_ev (e_iap Try.underlying71 Try.sizeOf5 rfl rfl rfl (by simp)) ?_
        refine g_ev (e_ld Try.underlying5 rfl (by repeat ((conv => arg 2; whnf); first | with_reducible exact .here | ((with_reducible refine Del.hereC ?_); rfl) | ((with_reducible refine Del.hereS ?_ ?_ ?_) <;> rfl) | exact .here | apply Del.there)) rfl) ?_
        refine g_ev (e_ne rfl rfl) ?_
        refine g_ev (e_mv) ?_
        first | refine g_dec 40 rfl (fun c40 => ?_) (fun c40 => ?_) | refine g_ndec 40 rfl (fun c40 => ?_) (fun c40 => ?_) | refine g_bool 40 rfl (fun c40 => ?_) (fun c40 => ?_)
        · skip
          refine g_not ?_
          refine g_not ?_
          refine g_not ?_
          refine g_not ?_
          refine g_not ?_
          refine g_ev (e_pk rfl) ?_
          refine g_ev (e_pk rfl) ?_
          refine g_nil ?_
          refine gc_true ?_
          refine gc_seq ?_
          refine gc_region ?_
          refine g_ev (e_as) ?_
          refine g_ev (e_as) ?_
          refine g_nil ?_
          refine gc_ret ?_
          exact ret2 (L1 := [cellB bc b mx v dead, memP b s]) rfl (by (conv => lhs; whnf); exact congrArg (Value.int .i64) (by have e : s.free = 1 := by { unfold MemS.free; rw [if_pos ⟨by omega, .inl (by omega)⟩] }; rw [e]; rfl)) (by (conv => lhs; whnf); try rfl) ⟨rfl, rfl⟩ (fun _ h => h.fin (by repeat ((conv => arg 1; whnf); (conv => arg 2; whnf); first | with_reducible exact .done | exact Fin.all _ | refine .cons (by repeat ((conv => arg 2; whnf); first | with_reducible exact .here | ((with_reducible refine Del.hereC ?_); rfl) | ((with_reducible refine Del.hereS ?_ ?_ ?_) <;> rfl) | exact .here | apply Del.there)) ?_ | refine .drop ?_)))
        · skip
          refine g_ev (e_iap Try.underlying72 Try.sizeOf35 rfl rfl rfl (by simp)) ?_
          refine g_ev (e_ld Try.underlying35 rfl (by repeat ((conv => arg 2; whnf); first | with_reducible exact .here | ((with_reducible refine Del.hereC ?_); rfl) | ((with_reducible refine Del.hereS ?_ ?_ ?_) <;> rfl) | exact .here | apply Del.there)) rfl) ?_
          refine g_ev (e_iap Try.underlying72 Try.sizeOf35 rfl rfl rfl (by simp)) ?_
          refine g_ev (e_ld Try.underlying35 rfl (by repeat ((conv => arg 2; whnf); first | with_reducible exact .here | ((with_reducible refine Del.hereC ?_); rfl) | ((with_reducible refine Del.hereS ?_ ?_ ?_) <;> rfl) | exact .here | apply Del.there)) rfl) ?_
          refine g_ev (e_lt rfl rfl) ?_
          refine g_ev (e_pk rfl) ?_
          refine g_ev (e_pk rfl) ?_
          refine g_nil ?_
          first | refine gc_dec rfl (fun c47 => ?_) (fun c47 => ?_) | refine gc_ndec rfl (fun c47 => ?_) (fun c47 => ?_) | refine gc_cond rfl (fun c47 => ?_) (fun c47 => ?_)
          · skip
            refine gc_seq ?_
            refine gc_region ?_
            refine g_ev (e_as) ?_
            refine g_ev (e_as) ?_
            refine g_nil ?_
            refine gc_ret ?_
            exact ret2 (L1 := [cellB bc b mx v dead, memP b s]) rfl (by (conv => lhs; whnf); exact congrArg (Value.int .i64) (by have e : s.free = 1 := by { unfold MemS.free; rw [if_pos ⟨by omega, .inr (by omega)⟩] }; rw [e]; rfl)) (by (conv => lhs; whnf); try rfl) ⟨rfl, rfl⟩ (fun _ h => h.fin (by repeat ((conv => arg 1; whnf); (conv => arg 2; whnf); first | with_reducible exact .done | exact Fin.all _ | refine .cons (by repeat ((conv => arg 2; whnf); first | with_reducible exact .here | ((with_reducible refine Del.hereC ?_); rfl) | ((with_reducible refine Del.hereS ?_ ?_ ?_) <;> rfl) | exact .here | apply Del.there)) ?_ | refine .drop ?_)))
          · skip
            refine gc_skip ?_
            refine gc_seq ?_
            refine gc_region ?_
            refine g_ev (e_as) ?_
            refine g_ev (e_as) ?_
            refine g_nil ?_
            refine gc_ret ?_
            exact ret2 (L1 := [cellB bc b mx v dead, memP b s]) rfl (by (conv => lhs; whnf); exact congrArg (Value.int .i64) (by have e : s.free = 0 := by { unfold MemS.free; rw [if_neg (by omega)] }; rw [e]; rfl)) (by (conv => lhs; whnf); try rfl) ⟨rfl, rfl⟩ (fun _ h => h.fin (by repeat ((conv => arg 1; whnf); (conv => arg 2; whnf); first | with_reducible exact .done | exact Fin.all _ | refine .cons (by repeat ((conv => arg 2; whnf); first | with_reducible exact .here | ((with_reducible refine Del.hereC ?_); rfl) | ((with_reducible refine Del.hereS ?_ ?_ ?_) <;> rfl) | exact .here | apply Del.there)) ?_ | refine .drop ?_)))
      · skip
        refine g_not ?_
        refine g_not ?_
        refine g_not ?_
        refine g_not ?_
        refine g_not ?_
        refine g_not ?_
        refine g_not ?_
        refine g_not ?_
        refine g_not ?_
        refine g_not ?_
        refine g_ev (e_pk rfl) ?_
        refine g_nil ?_
        refine gc_false ?_
        refine gc_skip ?_
        refine gc_seq ?_
        refine gc_region ?_
        refine g_ev (e_as) ?_
        refine g_ev (e_as) ?_
        refine g_nil ?_
        refine gc_ret ?_
        exact ret2 (L1 := [cellB bc b mx v dead, memP b s]) rfl (by (conv => lhs; whnf); exact congrArg (Value.int .i64) (by have e : s.free = 0 := by { unfold MemS.free; rw [if_neg (by omega)] }; rw [e]; rfl)) (by (conv => lhs; whnf); try rfl) ⟨rfl, rfl⟩ (fun _ h => h.fin (by repeat ((conv => arg 1; whnf); (conv => arg 2; whnf); first | with_reducible exact .done | exact Fin.all _ | refine .cons (by repeat ((conv => arg 2; whnf); first | with_reducible exact .here | ((with_reducible refine Del.hereC ?_); rfl) | ((with_reducible refine Del.hereS ?_ ?_ ?_) <;> rfl) | exact .here | apply Del.there)) ?_ | refine .drop ?_)))

theorem open_range (b : Nat) (s : MemS) (mx : Nat) (h : mx = 0 ∨ s.bs.length < 10) : Tri Try.prog 13 #[.pointer (some ⟨b, 0, none⟩), .int .u32 (mx : Int)] [memP b s] (openR (2, s) (memP b) (fun bc => cellB bc b mx s.val false)) := by
  refine tri_of Try.call13 Try.func13 rfl fun B F => ?_
  refine gc_seq ?_
  refine gc_region ?_
  refine g_ev (e_as) ?_
  refine g_ev (e_as) ?_
  refine g_nil ?_
  refine gc_seq ?_
  refine gc_block ?_
  refine gc_seq ?_
  refine gc_region ?_
  refine g_ev (e_mv) ?_
  refine g_ev (e_eqp Try.underlying26 rfl rfl) ?_
  refine g_ev (e_as) ?_
  refine g_nil ?_
  refine gc_false ?_
  refine gc_seq ?_
  refine gc_region ?_
  refine g_ev (e_mv) ?_
  refine g_ev (e_eq rfl rfl) ?_
  refine g_ev (e_mv) ?_
  first | refine g_dec 20 rfl (fun c20 => ?_) (fun c20 => ?_) | refine g_ndec 20 rfl (fun c20 => ?_) (fun c20 => ?_) | refine g_bool 20 rfl (fun c20 => ?_) (fun c20 => ?_)
  · skip
    refine g_not ?_
    refine g_not ?_
    refine g_not ?_
    refine g_ev (e_pk rfl) ?_
    refine g_ev (e_as) ?_
    refine g_nil ?_
    refine gc_true ?_
    refine gc_seq ?_
    refine gc_region ?_
    refine g_ev (e_as) ?_
    refine g_ev (e_as) ?_
    refine g_nil ?_
    refine gc_ret ?_
    exact ret2 (L1 := [memP b s]) rfl (by (conv => lhs; whnf); try rfl) (by (conv => lhs; whnf); try rfl) (by unfold openR; rw [if_neg (by simp)]; exact ⟨rfl, rfl⟩) (fun _ h => h.fin (by repeat ((conv => arg 1; whnf); (conv => arg 2; whnf); first | with_reducible exact .done | exact Fin.all _ | refine .cons (by repeat ((conv => arg 2; whnf); first | with_reducible exact .here | ((with_reducible refine Del.hereC ?_); rfl) | ((with_reducible refine Del.hereS ?_ ?_ ?_) <;> rfl) | exact .here | apply Del.there)) ?_ | refine .drop ?_)))
  · skip
    refine g_ev (e_mv) ?_
    refine g_eff (s_call (size_t b s) (.cons (by repeat ((conv => arg 2; whnf); first | with_reducible exact .here | ((with_reducible refine Del.hereC ?_); rfl) | ((with_reducible refine Del.hereS ?_ ?_ ?_) <;> rfl) | exact .here | apply Del.there)) (.nil))) ?_
    rintro _ _ ⟨_, ⟨rfl, rfl⟩, rfl⟩
    refine g_ev (e_lt rfl rfl) ?_
    refine g_ev (e_pk rfl) ?_
    refine g_ev (e_as) ?_
    refine g_nil ?_
    first | refine gc_dec rfl (fun c17 => ?_) (fun c17 => ?_) | refine gc_ndec rfl (fun c17 => ?_) (fun c17 => ?_) | refine gc_cond rfl (fun c17 => ?_) (fun c17 => ?_)
    · skip
      refine gc_seq ?_
      refine gc_region ?_
      refine g_ev (e_as) ?_
      refine g_ev (e_as) ?_
      refine g_nil ?_
      refine gc_ret ?_
      exact ret2 (L1 := [memP b s]) rfl (by (conv => lhs; whnf); try rfl) (by (conv => lhs; whnf); try rfl) (by unfold openR; rw [if_neg (by simp)]; exact ⟨rfl, rfl⟩) (fun _ h => h.fin (by repeat ((conv => arg 1; whnf); (conv => arg 2; whnf); first | with_reducible exact .done | exact Fin.all _ | refine .cons (by repeat ((conv => arg 2; whnf); first | with_reducible exact .here | ((with_reducible refine Del.hereC ?_); rfl) | ((with_reducible refine Del.hereS ?_ ?_ ?_) <;> rfl) | exact .here | apply Del.there)) ?_ | refine .drop ?_)))
    · omega

theorem open_off (b : Nat) (s : MemS) (mx : Nat) (h0 : mx ≠ 0) (hl : 10 ≤ s.bs.length) (ho : s.off = true) : Tri Try.prog 13 #[.pointer (some ⟨b, 0, none⟩), .int .u32 (mx : Int)] [memP b s] (openR (70, s) (memP b) (fun bc => cellB bc b mx s.val false)) := by
  refine tri_of Try.call13 Try.func13 rfl fun B F => ?_
  refine gc_seq ?_
  refine gc_region ?_
  refine g_ev (e_as) ?_
  refine g_ev (e_as) ?_
  refine g_nil ?_
  refine gc_seq ?_
  refine gc_block ?_
  refine gc_seq ?_
  refine gc_region ?_
  refine g_ev (e_mv) ?_
  refine g_ev (e_eqp Try.underlying26 rfl rfl) ?_
  refine g_ev (e_as) ?_
  refine g_nil ?_
  refine gc_false ?_
  refine gc_seq ?_
  refine gc_region ?_
  refine g_ev (e_mv) ?_
  refine g_ev (e_eq rfl rfl) ?_
  refine g_ev (e_mv) ?_
  first | refine g_dec 20 rfl (fun c20 => ?_) (fun c20 => ?_) | refine g_ndec 20 rfl (fun c20 => ?_) (fun c20 => ?_) | refine g_bool 20 rfl (fun c20 => ?_) (fun c20 => ?_)
  · omega
  · skip
    refine g_ev (e_mv) ?_
    refine g_eff (s_call (size_t b s) (.cons (by repeat ((conv => arg 2; whnf); first | with_reducible exact .here | ((with_reducible refine Del.hereC ?_); rfl) | ((with_reducible refine Del.hereS ?_ ?_ ?_) <;> rfl) | exact .here | apply Del.there)) (.nil))) ?_
    rintro _ _ ⟨_, ⟨rfl, rfl⟩, rfl⟩
    refine g_ev (e_lt rfl rfl) ?_
    refine g_ev (e_pk rfl) ?_
    refine g_ev (e_as) ?_
    refine g_nil ?_
    first | refine gc_dec rfl (fun c17 => ?_) (fun c17 => ?_) | refine gc_ndec rfl (fun c17 => ?_) (fun c17 => ?_) | refine gc_cond rfl (fun c17 => ?_) (fun c17 => ?_)
    · omega
    · skip
      refine gc_skip ?_
      refine gc_seq ?_
      refine gc_region ?_
      refine g_eff (s_al Try.zeroValue71) ?_
      rintro _ _ ⟨b6, rfl, rfl⟩
      refine g_nil ?_
      refine gc_seq ?_
      refine gc_region ?_
      refine g_eff (s_al Try.zeroValue72) ?_
      rintro _ _ ⟨b7, rfl, rfl⟩
      refine g_nil ?_
      refine gc_seq ?_
      refine gc_seq ?_
      refine gc_region ?_
      refine g_ev (e_mv) ?_
      refine g_nil ?_
      refine gc_block ?_
      refine gl_start ?_
      refine gl_round ?_
      refine gc_seq ?_
      refine gc_region ?_
      refine g_ev (e_lt rfl rfl) ?_
      refine g_nil ?_
      refine gc_seq ?_
      refine gc_true ?_ (hc := by first | ((conv => lhs; whnf); done) | ((conv => lhs; whnf); rfl))
      refine gc_skip ?_
      refine gc_seq ?_
      refine gc_block ?_
      refine gc_seq ?_
      refine gc_region ?_
      refine g_ev (e_mv) ?_
      refine g_ev (e_as) ?_
      refine g_nil ?_
      refine gc_seq ?_
      refine gc_region ?_
      refine g_ev (e_mv) ?_
      refine g_ev (e_mv) ?_
      refine g_eff (s_call (cread_off b s 0 ho) (.cons (by repeat ((conv => arg 2; whnf); first | with_reducible exact .here | ((with_reducible refine Del.hereC ?_); rfl) | ((with_reducible refine Del.hereS ?_ ?_ ?_) <;> rfl) | exact .here | apply Del.there)) (.nil))) ?_
      rintro _ _ ⟨_, ⟨rfl, rfl⟩, rfl⟩
      refine g_ev (e_mv) ?_
      refine g_ev (e_ex rfl) ?_
      refine g_ev (e_ex rfl) ?_
      refine g_ev (e_ex rfl) ?_
      refine g_ev (e_as) ?_
      refine g_ev (e_as) ?_
      refine g_ev (e_as) ?_
      refine g_nil ?_
      refine gc_seq ?_
      refine gc_seq ?_
      refine gc_region ?_
      refine g_ev (e_mv) ?_
      refine g_ev (e_ne rfl rfl) ?_
      refine g_nil ?_
      first | refine gc_dec rfl (fun c36_0 => ?_) (fun c36_0 => ?_) | refine gc_ndec rfl (fun c36_0 => ?_) (fun c36_0 => ?_) | refine gc_cond rfl (fun c36_0 => ?_) (fun c36_0 => ?_)
      · skip
        refine gc_seq ?_
        refine gc_region ?_
        refine g_ev (e_mv) ?_
        refine g_ev (e_as) ?_
        refine g_ev (e_as) ?_
        refine g_nil ?_
        refine gc_ret ?_
        exact ret2 (L1 := [memP b s]) rfl (by (conv => lhs; whnf); try rfl) (by (conv => lhs; whnf); try rfl) (by unfold openR; rw [if_neg (by simp)]; exact ⟨rfl, rfl⟩) (fun _ h => h.fin (by repeat ((conv => arg 1; whnf); (conv => arg 2; whnf); first | with_reducible exact .done | exact Fin.all _ | refine .cons (by repeat ((conv => arg 2; whnf); first | with_reducible exact .here | ((with_reducible refine Del.hereC ?_); rfl) | ((with_reducible refine Del.hereS ?_ ?_ ?_) <;> rfl) | exact .here | apply Del.there)) ?_ | refine .drop ?_)))
      · exact absurd c36_0 (by decide)

theorem open_on (b : Nat) (s : MemS) (mx : Nat) (h0 : mx ≠ 0) (hl : 10 ≤ s.bs.length) (hm : s.bs.length ≤ 4096) (ho : s.off = false) : Tri Try.prog 13 #[.pointer (some ⟨b, 0, none⟩), .int .u32 (mx : Int)] [memP b s] (openR s.fix (memP b) (fun bc => cellB bc b mx s.val false)) := by
  refine tri_of Try.call13 Try.func13 rfl fun B F => ?_
  refine gc_seq ?_
  refine gc_region ?_
  refine g_ev (e_as) ?_
  refine g_ev (e_as) ?_
  refine g_nil ?_
  refine gc_seq ?_
  refine gc_block ?_
  refine gc_seq ?_
  refine gc_region ?_
  refine g_ev (e_mv) ?_
  refine g_ev (e_eqp Try.underlying26 rfl rfl) ?_
  refine g_ev (e_as) ?_
  refine g_nil ?_
  refine gc_false ?_
  refine gc_seq ?_
  refine gc_region ?_
  refine g_ev (e_mv) ?_
  refine g_ev (e_eq rfl rfl) ?_
  refine g_ev (e_mv) ?_
  first | refine g_dec 20 rfl (fun c20 => ?_) (fun c20 => ?_) | refine g_ndec 20 rfl (fun c20 => ?_) (fun c20 => ?_) | refine g_bool 20 rfl (fun c20 => ?_) (fun c20 => ?_)
  · omega
  · skip
    refine g_ev (e_mv) ?_
    refine g_eff (s_call (size_t b s) (.cons (by repeat ((conv => arg 2; whnf); first | with_reducible exact .here | ((with_reducible refine Del.hereC ?_); rfl) | ((with_reducible refine Del.hereS ?_ ?_ ?_) <;> rfl) | exact .here | apply Del.there)) (.nil))) ?_
    rintro _ _ ⟨_, ⟨rfl, rfl⟩, rfl⟩
    refine g_ev (e_lt rfl rfl) ?_
    refine g_ev (e_pk rfl) ?_
    refine g_ev (e_as) ?_
    refine g_nil ?_
    first | refine gc_dec rfl (fun c17 => ?_) (fun c17 => ?_) | refine gc_ndec rfl (fun c17 => ?_) (fun c17 => ?_) | refine gc_cond rfl (fun c17 => ?_) (fun c17 => ?_)
    · omega
    · skip
      refine gc_skip ?_
      refine gc_seq ?_
      refine gc_region ?_
      refine g_eff (s_al Try.zeroValue71) ?_
      rintro _ _ ⟨b6, rfl, rfl⟩
      refine g_nil ?_
      refine gc_seq ?_
      refine gc_region ?_
      refine g_eff (s_al Try.zeroValue72) ?_
      rintro _ _ ⟨b7, rfl, rfl⟩
      refine g_nil ?_
      refine gc_seq ?_
      refine gc_seq ?_
      refine gc_region ?_
      refine g_ev (e_mv) ?_
      refine g_nil ?_
      refine gc_block ?_
      refine gl_start ?_
      refine gl_round ?_
      refine gc_seq ?_
      refine gc_region ?_
      refine g_ev (e_lt rfl rfl) ?_
      refine g_nil ?_
      refine gc_seq ?_
      refine gc_true ?_ (hc := by first | ((conv => lhs; whnf); done) | ((conv => lhs; whnf); rfl))
      refine gc_skip ?_
      refine gc_seq ?_
      refine gc_block ?_
      refine gc_seq ?_
      refine gc_region ?_
      refine g_ev (e_mv) ?_
      refine g_ev (e_as) ?_
      refine g_nil ?_
      refine gc_seq ?_
      refine gc_region ?_
      refine g_ev (e_mv) ?_
      refine g_ev (e_mv) ?_
      refine g_eff (s_call (cread0 b s (by omega) hm ho) (.cons (by repeat ((conv => arg 2; whnf); first | with_reducible exact .here | ((with_reducible refine Del.hereC ?_); rfl) | ((with_reducible refine Del.hereS ?_ ?_ ?_) <;> rfl) | exact .here | apply Del.there)) (.nil))) ?_
      rintro _ _ ⟨_, ⟨rfl, rfl⟩, rfl⟩
      refine g_ev (e_mv) ?_
      refine g_ev (e_ex rfl) ?_
      refine g_ev (e_ex rfl) ?_
      refine g_ev (e_ex rfl) ?_
      refine g_ev (e_as) ?_
      refine g_ev (e_as) ?_
      refine g_ev (e_as) ?_
      refine g_nil ?_
      refine gc_seq ?_
      refine gc_seq ?_
      refine gc_region ?_
      refine g_ev (e_mv) ?_
      refine g_ev (e_ne rfl rfl) ?_
      refine g_nil ?_
      first | refine gc_dec rfl (fun c36_0 => ?_) (fun c36_0 => ?_) | refine gc_ndec rfl (fun c36_0 => ?_) (fun c36_0 => ?_) | refine gc_cond rfl (fun c36_0 => ?_) (fun c36_0 => ?_)
      · exact absurd rfl c36_0
      · skip
        refine gc_skip ?_
        refine gc_region ?_
        refine g_ev (e_mv) ?_
        refine g_ev (e_mv) ?_
        refine g_ev (e_mv) ?_
        refine g_ev (e_mv) ?_
        refine g_ev (e_iap Try.underlying71 Try.sizeOf5 rfl rfl (q := 0) rfl (by decide)) ?_
        refine g_eff (s_st Try.sizeOf5 rfl (by repeat ((conv => arg 3; whnf); first | with_reducible exact .here | apply Turn.there))) ?_
        rintro _ _ ⟨rfl, rfl⟩
        refine g_ev (e_iap Try.underlying72 Try.sizeOf35 rfl rfl (q := 0) rfl (by decide)) ?_
        refine g_eff (s_st Try.sizeOf35 rfl (by repeat ((conv => arg 3; whnf); first | with_reducible exact .here | apply Turn.there))) ?_
        rintro _ _ ⟨rfl, rfl⟩
        refine g_nil ?_
        refine gc_region ?_
        refine g_ev ((e_addw rfl rfl).to (v' := .int .i64 (1 : Int)) rfl) ?_
        refine g_ev (e_mv) ?_
        refine g_nil ?_
        refine gl_round ?_
        refine gc_seq ?_
        refine gc_region ?_
        refine g_ev (e_lt rfl rfl) ?_
        refine g_nil ?_
        refine gc_seq ?_
        refine gc_true ?_ (hc := by first | ((conv => lhs; whnf); done) | ((conv => lhs; whnf); rfl))
        refine gc_skip ?_
        refine gc_seq ?_
        refine gc_block ?_
        refine gc_seq ?_
        refine gc_region ?_
        refine g_ev (e_mv) ?_
        refine g_ev (e_as) ?_
        refine g_nil ?_
        refine gc_seq ?_
        refine gc_region ?_
        refine g_ev (e_mv) ?_
        refine g_ev (e_mv) ?_
        refine g_eff (s_call (cread1 b s (by omega) hm ho) (.cons (by repeat ((conv => arg 2; whnf); first | with_reducible exact .here | ((with_reducible refine Del.hereC ?_); rfl) | ((with_reducible refine Del.hereS ?_ ?_ ?_) <;> rfl) | exact .here | apply Del.there)) (.nil))) ?_
        rintro _ _ ⟨_, ⟨rfl, rfl⟩, rfl⟩
        refine g_ev (e_mv) ?_
        refine g_ev (e_ex rfl) ?_
        refine g_ev (e_ex rfl) ?_
        refine g_ev (e_ex rfl) ?_
        refine g_ev (e_as) ?_
        refine g_ev (e_as) ?_
        refine g_ev (e_as) ?_
        refine g_nil ?_
        refine gc_seq ?_
        refine gc_seq ?_
        refine gc_region ?_
        refine g_ev (e_mv) ?_
        refine g_ev (e_ne rfl rfl) ?_
        refine g_nil ?_
        first | refine gc_dec rfl (fun c36_1 => ?_) (fun c36_1 => ?_) | refine gc_ndec rfl (fun c36_1 => ?_) (fun c36_1 => ?_) | refine gc_cond rfl (fun c36_1 => ?_) (fun c36_1 => ?_)
        · exact absurd rfl c36_1
        · skip
          refine gc_skip ?_
          refine gc_region ?_
          refine g_ev (e_mv) ?_
          refine g_ev (e_mv) ?_
          refine g_ev (e_mv) ?_
          refine g_ev (e_mv) ?_
          refine g_ev (e_iap Try.underlying71 Try.sizeOf5 rfl rfl (q := 1) rfl (by decide)) ?_
          refine g_eff (s_st Try.sizeOf5 rfl (by repeat ((conv => arg 3; whnf); first | with_reducible exact .here | apply Turn.there))) ?_
          rintro _ _ ⟨rfl, rfl⟩
          refine g_ev (e_iap Try.underlying72 Try.sizeOf35 rfl rfl (q := 1) rfl (by decide)) ?_
          refine g_eff (s_st Try.sizeOf35 rfl (by repeat ((conv => arg 3; whnf); first | with_reducible exact .here | apply Turn.there))) ?_
          rintro _ _ ⟨rfl, rfl⟩
          refine g_nil ?_
          refine gc_region ?_
          refine g_ev ((e_addw rfl rfl).to (v' := .int .i64 (2 : Int)) rfl) ?_
          refine g_ev (e_mv) ?_
          refine g_nil ?_
          refine gl_round ?_
          refine gc_seq ?_
          refine gc_region ?_
          refine g_ev (e_lt rfl rfl) ?_
          refine g_nil ?_
          refine gc_seq ?_
          refine gc_false ?_ (hc := by first | ((conv => lhs; whnf); done) | ((conv => lhs; whnf); rfl))
          refine gc_exit ?_
          refine gc_seq ?_
          refine gc_region ?_
          refine g_ev (e_mv) ?_
          refine g_ev (e_ldA Try.underlying71 rfl (by repeat ((conv => arg 2; whnf); first | with_reducible exact .here | ((with_reducible refine Del.hereC ?_); rfl) | ((with_reducible refine Del.hereS ?_ ?_ ?_) <;> rfl) | exact .here | apply Del.there)) Try.sizeOf71 (Nat.le_of_ble_eq_true rfl)) ?_
          refine g_ev (e_ldA Try.underlying72 rfl (by repeat ((conv => arg 2; whnf); first | with_reducible exact .here | ((with_reducible refine Del.hereC ?_); rfl) | ((with_reducible refine Del.hereS ?_ ?_ ?_) <;> rfl) | exact .here | apply Del.there)) Try.sizeOf72 (Nat.le_of_ble_eq_true rfl)) ?_
          refine g_eff (s_call (repair_t b s) (.cons (by repeat ((conv => arg 2; whnf); first | with_reducible exact .here | ((with_reducible refine Del.hereC ?_); rfl) | ((with_reducible refine Del.hereS ?_ ?_ ?_) <;> rfl) | exact .here | apply Del.there)) (.nil))) ?_
          rintro _ _ ⟨_, ⟨rfl, rfl⟩, rfl⟩
          refine g_ev (e_mv) ?_
          refine g_ev (e_ex rfl) ?_
          refine g_ev (e_ex rfl) ?_
          refine g_ev (e_as) ?_
          refine g_ev (e_as) ?_
          refine g_nil ?_
          refine gc_seq ?_
          refine gc_seq ?_
          refine gc_region ?_
          refine g_ev (e_mv) ?_
          refine g_ev (e_ne rfl rfl) ?_
          refine g_nil ?_
          first | refine gc_dec rfl (fun c53 => ?_) (fun c53 => ?_) | refine gc_ndec rfl (fun c53 => ?_) (fun c53 => ?_) | refine gc_cond rfl (fun c53 => ?_) (fun c53 => ?_)
          · skip
            refine gc_seq ?_
            refine gc_region ?_
            refine g_ev (e_mv) ?_
            refine g_ev (e_as) ?_
            refine g_ev (e_as) ?_
            refine g_nil ?_
            refine gc_ret ?_
            exact ret2 (L1 := [memP b s.fix.2]) rfl (by (conv => lhs; whnf); try rfl) (by (conv => lhs; whnf); try rfl) (by unfold openR; rw [if_neg c53]; exact ⟨rfl, rfl⟩) (fun _ h => h.fin (by repeat ((conv => arg 1; whnf); (conv => arg 2; whnf); first | with_reducible exact .done | exact Fin.all _ | refine .cons (by repeat ((conv => arg 2; whnf); first | with_reducible exact .here | ((with_reducible refine Del.hereC ?_); rfl) | ((with_reducible refine Del.hereS ?_ ?_ ?_) <;> rfl) | exact .here | apply Del.there)) ?_ | refine .drop ?_)))
          · skip
            refine gc_skip ?_
            refine gc_seq ?_
            refine gc_region ?_
            refine g_ev (e_mv) ?_
            refine g_ev (e_mv) ?_
            refine g_ev (e_mv) ?_
            refine g_ev (e_bd Try.underlying77 Try.zeroValue77 pl77 rfl) ?_
            refine g_eff (s_bx) ?_
            rintro _ _ ⟨b59, rfl, rfl⟩
            refine g_ev (e_as) ?_
            refine g_ev (e_as) ?_
            refine g_nil ?_
            refine gc_ret ?_
            exact ret2 (L1 := [cellB b59 b mx s.val false, memP b s.fix.2]) rfl (by (conv => lhs; whnf); try rfl) (by (conv => lhs; whnf); try rfl) (by unfold openR; rw [if_pos c53]; exact ⟨b59, rfl, rfl⟩) (fun _ h => h.fin (by repeat ((conv => arg 1; whnf); (conv => arg 2; whnf); first | with_reducible exact .done | exact Fin.all _ | refine .cons (by repeat ((conv => arg 2; whnf); first | with_reducible exact .here | ((with_reducible refine Del.hereC ?_); rfl) | ((with_reducible refine Del.hereS ?_ ?_ ?_) <;> rfl) | exact .here | apply Del.there)) ?_ | refine .drop ?_)))


theorem open_t (b : Nat) (s : MemS) (mx : Nat) (hm : s.bs.length ≤ 4096) : Tri Try.prog 13 #[.pointer (some ⟨b, 0, none⟩), .int .u32 (mx : Int)] [memP b s] (openR (s.open mx) (memP b) (fun bc => cellB bc b mx s.val false)) := by
  unfold MemS.open
  by_cases h : mx = 0 ∨ s.bs.length < 10
  · rw [if_pos h]; exact open_range b s mx h
  · rw [if_neg h]
    by_cases ho : s.off = true
    · rw [if_pos ho]; exact open_off b s mx (by omega) (by omega) ho
    · rw [if_neg ho]; exact open_on b s mx (by omega) (by omega) hm (by simpa using ho)

theorem value_t (bc b mx v : Nat) (dead : Bool) : Tri Try.prog 17 #[.pointer (some ⟨bc, 0, none⟩)] [cellB bc b mx v dead] (isR (.int .u32 (v : Int)) [cellB bc b mx v dead]) := by
  refine tri_of Try.call17 Try.func17 rfl fun B F => ?_
  refine gc_seq ?_
  refine gc_region ?_
  refine g_ev (e_as) ?_
  refine g_nil ?_
  refine gc_seq ?_
  refine gc_seq ?_
  refine gc_region ?_
  refine g_ev (e_mv) ?_
  refine g_ev (e_eqp Try.underlying40 rfl rfl) ?_
  refine g_nil ?_
  refine gc_false ?_
  refine gc_skip ?_
  refine gc_seq ?_
  refine gc_region ?_
  refine g_ev (e_mv) ?_
  refine g_ev (e_nc rfl) ?_
  refine g_ev (e_fa Try.underlying77 rfl rfl Try.sizeOf35) ?_
  refine g_ev (e_ld Try.underlying35 rfl (by repeat ((conv => arg 2; whnf); first | with_reducible exact .here | ((with_reducible refine Del.hereC ?_); rfl) | ((with_reducible refine Del.hereS ?_ ?_ ?_) <;> rfl) | exact .here | apply Del.there)) rfl) ?_
  refine g_ev (e_as) ?_
  refine g_nil ?_
  refine gc_ret ?_
  exact (ret1 rfl (by (conv => lhs; whnf); try rfl) ⟨rfl, rfl⟩ (fun _ h => h.fin (by repeat ((conv => arg 1; whnf); (conv => arg 2; whnf); first | with_reducible exact .done | exact Fin.all _ | refine .cons (by repeat ((conv => arg 2; whnf); first | with_reducible exact .here | ((with_reducible refine Del.hereC ?_); rfl) | ((with_reducible refine Del.hereS ?_ ?_ ?_) <;> rfl) | exact .here | apply Del.there)) ?_ | refine .drop ?_))))

theorem next_t (bc b : Nat) (s : MemS) (mx v : Nat) (dead : Bool) (hl : 10 ≤ s.bs.length) (hm : s.bs.length ≤ 4096) (hx : mx < 4294967296) : Tri Try.prog 18 #[.pointer (some ⟨bc, 0, none⟩)] [cellB bc b mx v dead, memP b s] (nextR (memP b) (cellB bc b mx) (s.next mx v dead)) := by
  refine tri_of Try.call18 Try.func18 rfl fun B F => ?_
  refine gc_seq ?_
  refine gc_region ?_
  refine g_ev (e_as) ?_
  refine g_ev (e_as) ?_
  refine g_nil ?_
  refine gc_seq ?_
  refine gc_block ?_
  refine gc_seq ?_
  refine gc_region ?_
  refine g_ev (e_mv) ?_
  refine g_ev (e_eqp Try.underlying40 rfl rfl) ?_
  refine g_ev (e_as) ?_
  refine g_nil ?_
  refine gc_false ?_
  refine gc_seq ?_
  refine gc_region ?_
  refine g_ev (e_mv) ?_
  refine g_ev (e_nc rfl) ?_
  refine g_ev (e_fa Try.underlying77 rfl rfl Try.sizeOf4) ?_
  refine g_ev (e_ld Try.underlying4 rfl (by repeat ((conv => arg 2; whnf); first | with_reducible exact .here | ((with_reducible refine Del.hereC ?_); rfl) | ((with_reducible refine Del.hereS ?_ ?_ ?_) <;> rfl) | exact .here | apply Del.there)) rfl) ?_
  refine g_ev (e_mv) ?_
  first | refine g_dec 14 rfl (fun c14 => ?_) (fun c14 => ?_) | refine g_ndec 14 rfl (fun c14 => ?_) (fun c14 => ?_) | refine g_bool 14 rfl (fun c14 => ?_) (fun c14 => ?_)
  · skip
    refine g_not ?_
    refine g_not ?_
    refine g_not ?_
    refine g_not ?_
    refine g_not ?_
    refine g_ev (e_pk rfl) ?_
    refine g_ev (e_as) ?_
    refine g_nil ?_
    refine gc_true ?_
    refine gc_seq ?_
    refine gc_region ?_
    refine g_ev (e_as) ?_
    refine g_ev (e_as) ?_
    refine g_nil ?_
    refine gc_ret ?_
    exact ret2 (L1 := [cellB bc b mx v dead, memP b s]) rfl (by (conv => lhs; whnf); try rfl) (by (conv => lhs; whnf); try rfl) (by unfold nextR MemS.next; rw [if_pos (.inl c14)]; exact ⟨rfl, rfl⟩) (fun _ h => h.fin (by repeat ((conv => arg 1; whnf); (conv => arg 2; whnf); first | with_reducible exact .done | exact Fin.all _ | refine .cons (by repeat ((conv => arg 2; whnf); first | with_reducible exact .here | ((with_reducible refine Del.hereC ?_); rfl) | ((with_reducible refine Del.hereS ?_ ?_ ?_) <;> rfl) | exact .here | apply Del.there)) ?_ | refine .drop ?_)))
  · skip
    refine g_ev (e_mv) ?_
    refine g_ev (e_nc rfl) ?_
    refine g_ev (e_fa Try.underlying77 rfl rfl Try.sizeOf26) ?_
    refine g_ev (e_ld Try.underlying26 rfl (by repeat ((conv => arg 2; whnf); first | with_reducible exact .here | ((with_reducible refine Del.hereC ?_); rfl) | ((with_reducible refine Del.hereS ?_ ?_ ?_) <;> rfl) | exact .here | apply Del.there)) rfl) ?_
    refine g_eff (s_call (off_t b s) (.cons (by repeat ((conv => arg 2; whnf); first | with_reducible exact .here | ((with_reducible refine Del.hereC ?_); rfl) | ((with_reducible refine Del.hereS ?_ ?_ ?_) <;> rfl) | exact .here | apply Del.there)) (.nil))) ?_
    rintro _ _ ⟨_, ⟨rfl, rfl⟩, rfl⟩
    refine g_ev (e_pk rfl) ?_
    refine g_ev (e_as) ?_
    refine g_nil ?_
    first | refine gc_dec rfl (fun c9 => ?_) (fun c9 => ?_) | refine gc_ndec rfl (fun c9 => ?_) (fun c9 => ?_) | refine gc_cond rfl (fun c9 => ?_) (fun c9 => ?_)
    · skip
      refine gc_seq ?_
      refine gc_region ?_
      refine g_ev (e_as) ?_
      refine g_ev (e_as) ?_
      refine g_nil ?_
      refine gc_ret ?_
      exact ret2 (L1 := [cellB bc b mx v dead, memP b s]) rfl (by (conv => lhs; whnf); try rfl) (by (conv => lhs; whnf); try rfl) (by unfold nextR MemS.next; rw [if_pos (.inr c9)]; exact ⟨rfl, rfl⟩) (fun _ h => h.fin (by repeat ((conv => arg 1; whnf); (conv => arg 2; whnf); first | with_reducible exact .done | exact Fin.all _ | refine .cons (by repeat ((conv => arg 2; whnf); first | with_reducible exact .here | ((with_reducible refine Del.hereC ?_); rfl) | ((with_reducible refine Del.hereS ?_ ?_ ?_) <;> rfl) | exact .here | apply Del.there)) ?_ | refine .drop ?_)))
    · skip
      refine gc_seq ?_
      refine gc_draw (D := []) (fin := none) (plan := [(true, 0), (true, 1), (true, 2), (true, 3), (true, 4), (true, 5), (true, 6), (true, 7), (true, 8), (true, 9)]) rfl (by kernel_rfl) (by kernel_rfl) rfl .nil ?_
      refine gp_ev rfl (e_mv) ?_
      refine gp_ev rfl (e_nc rfl) ?_
      refine gp_ev rfl (e_fa Try.underlying77 rfl rfl Try.sizeOf35) ?_
      refine gp_ev rfl (e_ld Try.underlying35 rfl (by repeat ((conv => arg 2; whnf); first | with_reducible exact .here | ((with_reducible refine Del.hereC ?_); rfl) | ((with_reducible refine Del.hereS ?_ ?_ ?_) <;> rfl) | exact .here | apply Del.there)) rfl) ?_
      refine gp_ev rfl (e_mv) ?_
      refine gp_ev rfl (e_nc rfl) ?_
      refine gp_ev rfl (e_fa Try.underlying77 rfl rfl Try.sizeOf35) ?_
      refine gp_ev rfl (e_ld Try.underlying35 rfl (by repeat ((conv => arg 2; whnf); first | with_reducible exact .here | ((with_reducible refine Del.hereC ?_); rfl) | ((with_reducible refine Del.hereS ?_ ?_ ?_) <;> rfl) | exact .here | apply Del.there)) rfl) ?_
      refine gp_ev rfl (e_ge rfl rfl) ?_
      refine gp_ev rfl (e_as) ?_
      refine gp_nil ?_
      first | refine gc_dec rfl (fun c21 => ?_) (fun c21 => ?_) | refine gc_ndec rfl (fun c21 => ?_) (fun c21 => ?_) | refine gc_cond rfl (fun c21 => ?_) (fun c21 => ?_)
      · skip
        refine gc_seq ?_
        refine gc_region ?_
        refine g_ev (e_as) ?_
        refine g_ev (e_as) ?_
        refine g_nil ?_
        refine gc_ret ?_
        exact ret2 (L1 := [cellB bc b mx v dead, memP b s]) rfl (by (conv => lhs; whnf); try rfl) (by (conv => lhs; whnf); try rfl) (by unfold nextR MemS.next; rw [if_neg (by simp [c14, c9]), if_pos (by omega)]; exact ⟨rfl, rfl⟩) (fun _ h => h.fin (by repeat ((conv => arg 1; whnf); (conv => arg 2; whnf); first | with_reducible exact .done | exact Fin.all _ | refine .cons (by repeat ((conv => arg 2; whnf); first | with_reducible exact .here | ((with_reducible refine Del.hereC ?_); rfl) | ((with_reducible refine Del.hereS ?_ ?_ ?_) <;> rfl) | exact .here | apply Del.there)) ?_ | refine .drop ?_)))
      · skip
        refine gc_skip ?_
        refine gc_seq ?_
        refine gc_region ?_
        refine g_ev (e_mv) ?_
        refine g_eff (s_call (spare_c bc b s mx v dead hl hm (by simpa using c9)) (.cons (by repeat ((conv => arg 2; whnf); first | with_reducible exact .here | ((with_reducible refine Del.hereC ?_); rfl) | ((with_reducible refine Del.hereS ?_ ?_ ?_) <;> rfl) | exact .here | apply Del.there)) (.cons (by repeat ((conv => arg 2; whnf); first | with_reducible exact .here | ((with_reducible refine Del.hereC ?_); rfl) | ((with_reducible refine Del.hereS ?_ ?_ ?_) <;> rfl) | exact .here | apply Del.there)) .nil))) ?_
        rintro _ _ ⟨_, ⟨rfl, rfl⟩, rfl⟩
        refine g_ev (e_mv) ?_
        refine g_ev (e_ex rfl) ?_
        refine g_ev (e_ex rfl) ?_
        refine g_ev (e_as) ?_
        refine g_ev (e_as) ?_
        refine g_nil ?_
        refine gc_seq ?_
        refine gc_seq ?_
        refine gc_region ?_
        refine g_ev (e_mv) ?_
        refine g_ev (e_eq rfl rfl) ?_
        refine g_nil ?_
        first | refine gc_dec rfl (fun c37 => ?_) (fun c37 => ?_) | refine gc_ndec rfl (fun c37 => ?_) (fun c37 => ?_) | refine gc_cond rfl (fun c37 => ?_) (fun c37 => ?_)
        · skip
          refine gc_draw (D := [memP b s]) (fin := none) (plan := [(true, 0), (true, 1), (true, 2), (true, 3), (true, 4), (true, 5), (true, 6), (true, 7), (true, 8), (true, 9), (false, 10), (true, 11)]) rfl (by kernel_rfl) (by kernel_rfl) rfl (.cons (by repeat ((conv => arg 2; whnf); first | with_reducible exact .here | ((with_reducible refine Del.hereC ?_); rfl) | ((with_reducible refine Del.hereS ?_ ?_ ?_) <;> rfl) | exact .here | apply Del.there)) .nil) ?_
          refine gp_ev rfl (e_mv) ?_
          refine gp_ev rfl (e_nc rfl) ?_
          refine gp_ev rfl (e_fa Try.underlying77 rfl rfl Try.sizeOf26) ?_
          refine gp_ev rfl (e_ld Try.underlying26 rfl (by repeat ((conv => arg 2; whnf); first | with_reducible exact .here | ((with_reducible refine Del.hereC ?_); rfl) | ((with_reducible refine Del.hereS ?_ ?_ ?_) <;> rfl) | exact .here | apply Del.there)) rfl) ?_
          refine gp_ev rfl (e_mv) ?_
          refine gp_ev rfl (e_mv) ?_
          refine gp_ev rfl (e_nc rfl) ?_
          refine gp_ev rfl (e_fa Try.underlying77 rfl rfl Try.sizeOf35) ?_
          refine gp_ev rfl (e_ld Try.underlying35 rfl (by repeat ((conv => arg 2; whnf); first | with_reducible exact .here | ((with_reducible refine Del.hereC ?_); rfl) | ((with_reducible refine Del.hereS ?_ ?_ ?_) <;> rfl) | exact .here | apply Del.there)) rfl) ?_
          refine gp_ev rfl ((e_addw rfl rfl).to (v' := .int .u32 ((v + 1 : Nat) : Int)) (congrArg _ (wrapU (by omega) (by omega)))) ?_
          refine gp_eff rfl (s_call (cwrite_t b s s.free (v + 1) s.free_le) (.cons (by repeat ((conv => arg 2; whnf); first | with_reducible exact .here | ((with_reducible refine Del.hereC ?_); rfl) | ((with_reducible refine Del.hereS ?_ ?_ ?_) <;> rfl) | exact .here | apply Del.there)) (.nil))) ?_
          rintro _ _ ⟨_, ⟨rfl, rfl⟩, rfl⟩
          refine gp_ev rfl (e_as) ?_
          refine gp_nil ?_
          refine gc_seq ?_
          refine gc_seq ?_
          refine gc_region ?_
          refine g_ev (e_mv) ?_
          refine g_ev (e_ne rfl rfl) ?_
          refine g_nil ?_
          first | refine gc_dec rfl (fun c50 => ?_) (fun c50 => ?_) | refine gc_ndec rfl (fun c50 => ?_) (fun c50 => ?_) | refine gc_cond rfl (fun c50 => ?_) (fun c50 => ?_)
          · skip
            refine gc_seq ?_
            refine gc_region ?_
            refine g_ev (e_mv) ?_
            refine g_ev (e_nc rfl) ?_
            refine g_ev (e_fa Try.underlying77 rfl rfl Try.sizeOf4) ?_
            refine g_eff (s_st Try.sizeOf4 rfl (by repeat ((conv => arg 3; whnf); first | with_reducible exact .here | apply Turn.there))) ?_
            rintro _ _ ⟨rfl, rfl⟩
            refine g_nil ?_
            refine gc_seq ?_
            refine gc_region ?_
            refine g_ev (e_as) ?_
            refine g_ev (e_as) ?_
            refine g_nil ?_
            refine gc_ret ?_
            exact ret2 (L1 := [cellB bc b mx v true, memP b (s.slot s.free (v + 1)).2]) rfl (by (conv => lhs; whnf); try rfl) (by (conv => lhs; whnf); try rfl) (by unfold nextR MemS.next; rw [if_neg (by simp [c14, c9]), if_neg (by omega), if_neg c50]; exact ⟨rfl, rfl⟩) (fun _ h => h.fin (by repeat ((conv => arg 1; whnf); (conv => arg 2; whnf); first | with_reducible exact .done | exact Fin.all _ | refine .cons (by repeat ((conv => arg 2; whnf); first | with_reducible exact .here | ((with_reducible refine Del.hereC ?_); rfl) | ((with_reducible refine Del.hereS ?_ ?_ ?_) <;> rfl) | exact .here | apply Del.there)) ?_ | refine .drop ?_)))
          · skip
            refine gc_skip ?_
            refine gc_seq ?_
            refine gc_region ?_
            refine g_ev (e_mv) ?_
            refine g_ev (e_nc rfl) ?_
            refine g_ev (e_fa Try.underlying77 rfl rfl Try.sizeOf35) ?_
            refine g_ev (e_ld Try.underlying35 rfl (by repeat ((conv => arg 2; whnf); first | with_reducible exact .here | ((with_reducible refine Del.hereC ?_); rfl) | ((with_reducible refine Del.hereS ?_ ?_ ?_) <;> rfl) | exact .here | apply Del.there)) rfl) ?_
            refine g_ev ((e_addw rfl rfl).to (v' := .int .u32 ((v + 1 : Nat) : Int)) (congrArg _ (wrapU (by omega) (by omega)))) ?_
            refine g_ev (e_nc rfl) ?_
            refine g_ev (e_fa Try.underlying77 rfl rfl Try.sizeOf35) ?_
            refine g_eff (s_st Try.sizeOf35 rfl (by repeat ((conv => arg 3; whnf); first | with_reducible exact .here | apply Turn.there))) ?_
            rintro _ _ ⟨rfl, rfl⟩
            refine g_nil ?_
            refine gc_seq ?_
            refine gc_region ?_
            refine g_ev (e_mv) ?_
            refine g_ev (e_nc rfl) ?_
            refine g_ev (e_fa Try.underlying77 rfl rfl Try.sizeOf35) ?_
            refine g_ev (e_ld Try.underlying35 rfl (by repeat ((conv => arg 2; whnf); first | with_reducible exact .here | ((with_reducible refine Del.hereC ?_); rfl) | ((with_reducible refine Del.hereS ?_ ?_ ?_) <;> rfl) | exact .here | apply Del.there)) rfl) ?_
            refine g_ev (e_as) ?_
            refine g_ev (e_as) ?_
            refine g_nil ?_
            refine gc_ret ?_
            exact ret2 (L1 := [cellB bc b mx (v + 1) dead, memP b (s.slot s.free (v + 1)).2]) rfl (by (conv => lhs; whnf); try rfl) (by (conv => lhs; whnf); try rfl) (by unfold nextR MemS.next; rw [if_neg (by simp [c14, c9]), if_neg (by omega), if_pos c50]; exact ⟨rfl, rfl⟩) (fun _ h => h.fin (by repeat ((conv => arg 1; whnf); (conv => arg 2; whnf); first | with_reducible exact .done | exact Fin.all _ | refine .cons (by repeat ((conv => arg 2; whnf); first | with_reducible exact .here | ((with_reducible refine Del.hereC ?_); rfl) | ((with_reducible refine Del.hereS ?_ ?_ ?_) <;> rfl) | exact .here | apply Del.there)) ?_ | refine .drop ?_)))
        · exact absurd rfl c37

theorem rwrite_t (b : Nat) (s : MemS) (at_ : Int) (c : UInt8) : Tri Try.prog 35 #[.pointer (some ⟨b, 0, none⟩), .int .i64 at_, .int .u8 (c.toNat : Int)] [refP b s] (isR (.int .i64 (s.write at_ c).1) [refP b (s.write at_ c).2]) := by
  refine tri_of Try.call35 Try.func35 rfl fun B F => ?_
  refine gc_open (refM b s) .here (fun _ h => h) (fun bsl => ?_)
  refine gc_fact (φ := slV bsl s.bs.length) (fun w h => (h.rds (.there .here)).slv) fun ⟨sl, cp, hsl, hnl, hni⟩ => ?_
  subst hsl
  refine gc_seq ?_
  refine gc_region ?_
  refine g_ev (e_as) ?_
  refine g_nil ?_
  refine gc_seq ?_
  refine gc_seq ?_
  refine gc_region ?_
  refine g_ev (e_mv) ?_
  refine g_ev (e_nc rfl) ?_
  refine g_ev (e_fa Try.underlying47 rfl rfl Try.sizeOf4) ?_
  refine g_ev (e_ld Try.underlying4 rfl (by repeat ((conv => arg 2; whnf); first | with_reducible exact .here | ((with_reducible refine Del.hereC ?_); rfl) | ((with_reducible refine Del.hereS ?_ ?_ ?_) <;> rfl) | exact .here | apply Del.there)) rfl) ?_
  refine g_nil ?_
  first | refine gc_dec rfl (fun c10 => ?_) (fun c10 => ?_) | refine gc_ndec rfl (fun c10 => ?_) (fun c10 => ?_) | refine gc_cond rfl (fun c10 => ?_) (fun c10 => ?_)
  · skip
    refine gc_seq ?_
    refine gc_region ?_
    refine g_ev (e_as) ?_
    refine g_nil ?_
    refine gc_ret ?_
    skip
    exact (ret1 (L1 := [refP b s]) rfl (by (conv => lhs; whnf); try rfl) (by unfold MemS.write; rw [if_pos c10]; exact And.intro rfl rfl) (fun _ h => h.fin (.fold (M := refM b s _) (fun _ h => ⟨_, h⟩) (by repeat ((conv => arg 1; whnf); (conv => arg 2; whnf); first | with_reducible exact .done | exact Fin.all _ | refine .cons (by repeat ((conv => arg 2; whnf); first | with_reducible exact .here | ((with_reducible refine Del.hereC ?_); rfl) | ((with_reducible refine Del.hereS ?_ ?_ ?_) <;> rfl) | exact .here | apply Del.there)) ?_ | refine .drop ?_)))))
  · skip
    refine gc_skip ?_
    refine gc_seq ?_
    refine gc_seq ?_
    refine gc_region ?_
    refine g_ev (e_mv) ?_
    refine g_ev (e_lt rfl rfl) ?_
    refine g_ev (e_mv) ?_
    first | refine g_dec 13 rfl (fun c13 => ?_) (fun c13 => ?_) | refine g_ndec 13 rfl (fun c13 => ?_) (fun c13 => ?_) | refine g_bool 13 rfl (fun c13 => ?_) (fun c13 => ?_)
    · skip
      refine g_not ?_
      refine g_not ?_
      refine g_not ?_
      refine g_not ?_
      refine g_not ?_
      refine g_not ?_
      refine g_not ?_
      refine g_ev (e_pk rfl) ?_
      refine g_nil ?_
      refine gc_true ?_
      refine gc_seq ?_
      refine gc_region ?_
      refine g_ev (e_as) ?_
      refine g_nil ?_
      refine gc_ret ?_
      skip
      exact (ret1 (L1 := [refP b s]) rfl (by (conv => lhs; whnf); try rfl) (by unfold MemS.write; rw [if_neg (by simp [c10]), if_pos (.inl c13)]; exact And.intro rfl rfl) (fun _ h => h.fin (.fold (M := refM b s _) (fun _ h => ⟨_, h⟩) (by repeat ((conv => arg 1; whnf); (conv => arg 2; whnf); first | with_reducible exact .done | exact Fin.all _ | refine .cons (by repeat ((conv => arg 2; whnf); first | with_reducible exact .here | ((with_reducible refine Del.hereC ?_); rfl) | ((with_reducible refine Del.hereS ?_ ?_ ?_) <;> rfl) | exact .here | apply Del.there)) ?_ | refine .drop ?_)))))
    · skip
      refine g_ev (e_mv) ?_
      refine g_ev (e_mv) ?_
      refine g_ev (e_nc rfl) ?_
      refine g_ev (e_fa Try.underlying47 rfl rfl Try.sizeOf22) ?_
      refine g_ev (e_ld Try.underlying22 rfl (by repeat ((conv => arg 2; whnf); first | with_reducible exact .here | ((with_reducible refine Del.hereC ?_); rfl) | ((with_reducible refine Del.hereS ?_ ?_ ?_) <;> rfl) | exact .here | apply Del.there)) rfl) ?_
      refine g_ev (e_len Try.underlying22 rfl) ?_
      refine g_ev (e_ge rfl rfl) ?_
      refine g_ev (e_pk rfl) ?_
      refine g_nil ?_
      first | refine gc_dec rfl (fun c21 => ?_) (fun c21 => ?_) | refine gc_ndec rfl (fun c21 => ?_) (fun c21 => ?_) | refine gc_cond rfl (fun c21 => ?_) (fun c21 => ?_)
      · skip
        refine gc_seq ?_
        refine gc_region ?_
        refine g_ev (e_as) ?_
        refine g_nil ?_
        refine gc_ret ?_
        skip
        exact (ret1 (L1 := [refP b s]) rfl (by (conv => lhs; whnf); try rfl) (by unfold MemS.write; rw [if_neg (by simp [c10]), if_pos (.inr c21)]; exact And.intro rfl rfl) (fun _ h => h.fin (.fold (M := refM b s _) (fun _ h => ⟨_, h⟩) (by repeat ((conv => arg 1; whnf); (conv => arg 2; whnf); first | with_reducible exact .done | exact Fin.all _ | refine .cons (by repeat ((conv => arg 2; whnf); first | with_reducible exact .here | ((with_reducible refine Del.hereC ?_); rfl) | ((with_reducible refine Del.hereS ?_ ?_ ?_) <;> rfl) | exact .here | apply Del.there)) ?_ | refine .drop ?_)))))
      · skip
        refine gc_skip ?_
        refine gc_seq ?_
        refine gc_seq ?_
        refine gc_region ?_
        refine g_ev (e_mv) ?_
        refine g_ev (e_nc rfl) ?_
        refine g_ev (e_fa Try.underlying47 rfl rfl Try.sizeOf4) ?_
        refine g_ev (e_ld Try.underlying4 rfl (by repeat ((conv => arg 2; whnf); first | with_reducible exact .here | ((with_reducible refine Del.hereC ?_); rfl) | ((with_reducible refine Del.hereS ?_ ?_ ?_) <;> rfl) | exact .here | apply Del.there)) rfl) ?_
        refine g_ev (e_mv) ?_
        first | refine g_dec 26 rfl (fun c26 => ?_) (fun c26 => ?_) | refine g_ndec 26 rfl (fun c26 => ?_) (fun c26 => ?_) | refine g_bool 26 rfl (fun c26 => ?_) (fun c26 => ?_)
        · skip
          refine g_ev (e_mv) ?_
          refine g_ev (e_nc rfl) ?_
          refine g_ev (e_fa Try.underlying47 rfl rfl Try.sizeOf3) ?_
          refine g_ev (e_ld Try.underlying3 rfl (by repeat ((conv => arg 2; whnf); first | with_reducible exact .here | ((with_reducible refine Del.hereC ?_); rfl) | ((with_reducible refine Del.hereS ?_ ?_ ?_) <;> rfl) | exact .here | apply Del.there)) rfl) ?_
          refine g_ev (e_eq rfl rfl) ?_
          refine g_ev (e_pk rfl) ?_
          refine g_nil ?_
          first | refine gc_dec rfl (fun c32 => ?_) (fun c32 => ?_) | refine gc_ndec rfl (fun c32 => ?_) (fun c32 => ?_) | refine gc_cond rfl (fun c32 => ?_) (fun c32 => ?_)
          · skip
            refine gc_seq ?_
            refine gc_region ?_
            refine g_ev (e_mv) ?_
            refine g_ev (e_nc rfl) ?_
            refine g_ev (e_fa Try.underlying47 rfl rfl Try.sizeOf4) ?_
            refine g_eff (s_st Try.sizeOf4 rfl (by repeat ((conv => arg 3; whnf); first | with_reducible exact .here | apply Turn.there))) ?_
            rintro _ _ ⟨rfl, rfl⟩
            refine g_nil ?_
            refine gc_seq ?_
            refine gc_region ?_
            refine g_ev (e_as) ?_
            refine g_nil ?_
            refine gc_ret ?_
            skip
            exact (ret1 (L1 := [refP b { s with off := true }]) rfl (by (conv => lhs; whnf); try rfl) (by unfold MemS.write; rw [if_neg (by simp [c10]), if_neg (by omega), if_pos ⟨c26, c32⟩]; exact And.intro rfl rfl) (fun _ h => h.fin (.fold (M := refM b { s with off := true } _) (fun _ h => ⟨_, h⟩) (by repeat ((conv => arg 1; whnf); (conv => arg 2; whnf); first | with_reducible exact .done | exact Fin.all _ | refine .cons (by repeat ((conv => arg 2; whnf); first | with_reducible exact .here | ((with_reducible refine Del.hereC ?_); rfl) | ((with_reducible refine Del.hereS ?_ ?_ ?_) <;> rfl) | exact .here | apply Del.there)) ?_ | refine .drop ?_)))))
          · skip
            refine gc_skip ?_
            refine gc_seq ?_
            refine gc_seq ?_
            refine gc_region ?_
            refine g_ev (e_mv) ?_
            refine g_ev (e_nc rfl) ?_
            refine g_ev (e_fa Try.underlying47 rfl rfl Try.sizeOf4) ?_
            refine g_ev (e_ld Try.underlying4 rfl (by repeat ((conv => arg 2; whnf); first | with_reducible exact .here | ((with_reducible refine Del.hereC ?_); rfl) | ((with_reducible refine Del.hereS ?_ ?_ ?_) <;> rfl) | exact .here | apply Del.there)) rfl) ?_
            refine g_nil ?_
            first | refine gc_dec rfl (fun c39 => ?_) (fun c39 => ?_) | refine gc_ndec rfl (fun c39 => ?_) (fun c39 => ?_) | refine gc_cond rfl (fun c39 => ?_) (fun c39 => ?_)
            · skip
              refine gc_region ?_
              refine g_ev (e_mv) ?_
              refine g_ev (e_mv) ?_
              refine g_ev (e_nc rfl) ?_
              refine g_ev (e_fa Try.underlying47 rfl rfl Try.sizeOf3) ?_
              refine g_ev (e_ld Try.underlying3 rfl (by repeat ((conv => arg 2; whnf); first | with_reducible exact .here | ((with_reducible refine Del.hereC ?_); rfl) | ((with_reducible refine Del.hereS ?_ ?_ ?_) <;> rfl) | exact .here | apply Del.there)) rfl) ?_
              refine g_ev (e_subw rfl rfl) ?_
              refine g_ev (e_nc rfl) ?_
              refine g_ev (e_fa Try.underlying47 rfl rfl Try.sizeOf3) ?_
              refine g_eff (s_st Try.sizeOf3 rfl (by repeat ((conv => arg 3; whnf); first | with_reducible exact .here | apply Turn.there))) ?_
              rintro _ _ ⟨rfl, rfl⟩
              refine g_nil ?_
              refine gc_seq ?_
              refine gc_region ?_
              refine g_ev (e_mv) ?_
              refine g_ev (e_nc rfl) ?_
              refine g_ev (e_fa Try.underlying47 rfl rfl Try.sizeOf22) ?_
              refine g_ev (e_ld Try.underlying22 rfl (by repeat ((conv => arg 2; whnf); first | with_reducible exact .here | ((with_reducible refine Del.hereC ?_); rfl) | ((with_reducible refine Del.hereS ?_ ?_ ?_) <;> rfl) | exact .here | apply Del.there)) rfl) ?_
              refine g_ev (e_mv) ?_
              refine g_ev (e_mv) ?_
              refine g_own (m := s.bs.length) (v := .slice sl s.bs.length cp) (e := 5) (k := 1) (xs := bv s.bs) (by omega) (by repeat ((conv => arg 2; whnf); first | with_reducible exact .here | ((with_reducible refine Del.hereC ?_); rfl) | ((with_reducible refine Del.hereS ?_ ?_ ?_) <;> rfl) | exact .here | apply Del.there)) fun b1 cap rest hv hv1 hv2 hv3 hv4 => ?_
              cases hv
              refine g_ev (e_ia Try.underlying22 Try.sizeOf5 rfl rfl (q := at_.toNat) (by omega) (by omega)) ?_
              refine g_eff (s_st Try.sizeOf5 rfl (by repeat ((conv => arg 3; whnf); first | with_reducible exact .here | apply Turn.there))) ?_
              rintro _ _ ⟨rfl, rfl⟩
              refine g_nil ?_
              refine gc_seq ?_
              refine gc_region ?_
              refine g_ev (e_mv) ?_
              refine g_ev (e_mv) ?_
              refine g_ev (e_nc rfl) ?_
              refine g_ev (e_fa Try.underlying47 rfl rfl Try.sizeOf3) ?_
              refine g_ev (e_ld Try.underlying3 rfl (by repeat ((conv => arg 2; whnf); first | with_reducible exact .here | ((with_reducible refine Del.hereC ?_); rfl) | ((with_reducible refine Del.hereS ?_ ?_ ?_) <;> rfl) | exact .here | apply Del.there)) rfl) ?_
              refine g_ev (e_addw rfl rfl) ?_
              refine g_ev (e_nc rfl) ?_
              refine g_ev (e_fa Try.underlying47 rfl rfl Try.sizeOf3) ?_
              refine g_eff (s_st Try.sizeOf3 rfl (by repeat ((conv => arg 3; whnf); first | with_reducible exact .here | apply Turn.there))) ?_
              rintro _ _ ⟨rfl, rfl⟩
              refine g_nil ?_
              refine gc_seq ?_
              refine gc_region ?_
              refine g_ev (e_as) ?_
              refine g_nil ?_
              refine gc_ret ?_
              have hset : bv (s.bs.set at_.toNat c) ++ rest = (bv s.bs ++ rest).set at_.toNat (.int .u8 (c.toNat : Int)) := by rw [List.set_append_left _ _ (by rw [bv_len]; omega)]; simp [bv, List.map_set]
              exact (ret1 (L1 := [refP b { s with left := IntKind.i64.wrap (s.left - 1), bs := s.bs.set at_.toNat c, writes := IntKind.i64.wrap (s.writes + 1) }]) rfl (by (conv => lhs; whnf); try rfl) (by unfold MemS.write; rw [if_neg (by simp [c10]), if_neg (by omega), if_neg (fun h => c32 h.2), if_pos c26]; exact And.intro rfl rfl) (fun _ h => h.fin (.fold (M := refM b { s with left := IntKind.i64.wrap (s.left - 1), bs := s.bs.set at_.toNat c, writes := IntKind.i64.wrap (s.writes + 1) } (.slice (some ⟨b1, 0, none⟩) s.bs.length cp)) (fun _ h => ⟨_, h⟩) (.cons (by first | (rw [hset]; repeat ((conv => arg 2; whnf); first | with_reducible exact .here | ((with_reducible refine Del.hereC ?_); rfl) | ((with_reducible refine Del.hereS ?_ ?_ ?_) <;> rfl) | exact .here | apply Del.there)) | repeat ((conv => arg 2; whnf); first | with_reducible exact .here | ((with_reducible refine Del.hereC ?_); rfl) | ((with_reducible refine Del.hereS ?_ ?_ ?_) <;> rfl) | exact .here | apply Del.there)) (.fold (M := [blk b1 5 (bv (s.bs.set at_.toNat c) ++ rest)]) (own_fold (rest := rest) (by simp; rfl) (by simp [bv]) (by simp; omega) (by omega) (by rw [← hv4]; simp [bv])) (.cons (by first | (rw [hset]; repeat ((conv => arg 2; whnf); first | with_reducible exact .here | ((with_reducible refine Del.hereC ?_); rfl) | ((with_reducible refine Del.hereS ?_ ?_ ?_) <;> rfl) | exact .here | apply Del.there)) | repeat ((conv => arg 2; whnf); first | with_reducible exact .here | ((with_reducible refine Del.hereC ?_); rfl) | ((with_reducible refine Del.hereS ?_ ?_ ?_) <;> rfl) | exact .here | apply Del.there)) .done))))))
            · skip
              refine gc_skip ?_
              refine gc_seq ?_
              refine gc_region ?_
              refine g_ev (e_mv) ?_
              refine g_ev (e_nc rfl) ?_
              refine g_ev (e_fa Try.underlying47 rfl rfl Try.sizeOf22) ?_
              refine g_ev (e_ld Try.underlying22 rfl (by repeat ((conv => arg 2; whnf); first | with_reducible exact .here | ((with_reducible refine Del.hereC ?_); rfl) | ((with_reducible refine Del.hereS ?_ ?_ ?_) <;> rfl) | exact .here | apply Del.there)) rfl) ?_
              refine g_ev (e_mv) ?_
              refine g_ev (e_mv) ?_
              refine g_own (m := s.bs.length) (v := .slice sl s.bs.length cp) (e := 5) (k := 1) (xs := bv s.bs) (by omega) (by repeat ((conv => arg 2; whnf); first | with_reducible exact .here | ((with_reducible refine Del.hereC ?_); rfl) | ((with_reducible refine Del.hereS ?_ ?_ ?_) <;> rfl) | exact .here | apply Del.there)) fun b1 cap rest hv hv1 hv2 hv3 hv4 => ?_
              cases hv
              refine g_ev (e_ia Try.underlying22 Try.sizeOf5 rfl rfl (q := at_.toNat) (by omega) (by omega)) ?_
              refine g_eff (s_st Try.sizeOf5 rfl (by repeat ((conv => arg 3; whnf); first | with_reducible exact .here | apply Turn.there))) ?_
              rintro _ _ ⟨rfl, rfl⟩
              refine g_nil ?_
              refine gc_seq ?_
              refine gc_region ?_
              refine g_ev (e_mv) ?_
              refine g_ev (e_mv) ?_
              refine g_ev (e_nc rfl) ?_
              refine g_ev (e_fa Try.underlying47 rfl rfl Try.sizeOf3) ?_
              refine g_ev (e_ld Try.underlying3 rfl (by repeat ((conv => arg 2; whnf); first | with_reducible exact .here | ((with_reducible refine Del.hereC ?_); rfl) | ((with_reducible refine Del.hereS ?_ ?_ ?_) <;> rfl) | exact .here | apply Del.there)) rfl) ?_
              refine g_ev (e_addw rfl rfl) ?_
              refine g_ev (e_nc rfl) ?_
              refine g_ev (e_fa Try.underlying47 rfl rfl Try.sizeOf3) ?_
              refine g_eff (s_st Try.sizeOf3 rfl (by repeat ((conv => arg 3; whnf); first | with_reducible exact .here | apply Turn.there))) ?_
              rintro _ _ ⟨rfl, rfl⟩
              refine g_nil ?_
              refine gc_seq ?_
              refine gc_region ?_
              refine g_ev (e_as) ?_
              refine g_nil ?_
              refine gc_ret ?_
              exact absurd c39 (by simp [c26])
        · skip
          refine g_not ?_
          refine g_not ?_
          refine g_not ?_
          refine g_not ?_
          refine g_not ?_
          refine g_ev (e_pk rfl) ?_
          refine g_nil ?_
          refine gc_false ?_
          refine gc_skip ?_
          refine gc_seq ?_
          refine gc_seq ?_
          refine gc_region ?_
          refine g_ev (e_mv) ?_
          refine g_ev (e_nc rfl) ?_
          refine g_ev (e_fa Try.underlying47 rfl rfl Try.sizeOf4) ?_
          refine g_ev (e_ld Try.underlying4 rfl (by repeat ((conv => arg 2; whnf); first | with_reducible exact .here | ((with_reducible refine Del.hereC ?_); rfl) | ((with_reducible refine Del.hereS ?_ ?_ ?_) <;> rfl) | exact .here | apply Del.there)) rfl) ?_
          refine g_nil ?_
          first | refine gc_dec rfl (fun c39 => ?_) (fun c39 => ?_) | refine gc_ndec rfl (fun c39 => ?_) (fun c39 => ?_) | refine gc_cond rfl (fun c39 => ?_) (fun c39 => ?_)
          · skip
            refine gc_region ?_
            refine g_ev (e_mv) ?_
            refine g_ev (e_mv) ?_
            refine g_ev (e_nc rfl) ?_
            refine g_ev (e_fa Try.underlying47 rfl rfl Try.sizeOf3) ?_
            refine g_ev (e_ld Try.underlying3 rfl (by repeat ((conv => arg 2; whnf); first | with_reducible exact .here | ((with_reducible refine Del.hereC ?_); rfl) | ((with_reducible refine Del.hereS ?_ ?_ ?_) <;> rfl) | exact .here | apply Del.there)) rfl) ?_
            refine g_ev (e_subw rfl rfl) ?_
            refine g_ev (e_nc rfl) ?_
            refine g_ev (e_fa Try.underlying47 rfl rfl Try.sizeOf3) ?_
            refine g_eff (s_st Try.sizeOf3 rfl (by repeat ((conv => arg 3; whnf); first | with_reducible exact .here | apply Turn.there))) ?_
            rintro _ _ ⟨rfl, rfl⟩
            refine g_nil ?_
            refine gc_seq ?_
            refine gc_region ?_
            refine g_ev (e_mv) ?_
            refine g_ev (e_nc rfl) ?_
            refine g_ev (e_fa Try.underlying47 rfl rfl Try.sizeOf22) ?_
            refine g_ev (e_ld Try.underlying22 rfl (by repeat ((conv => arg 2; whnf); first | with_reducible exact .here | ((with_reducible refine Del.hereC ?_); rfl) | ((with_reducible refine Del.hereS ?_ ?_ ?_) <;> rfl) | exact .here | apply Del.there)) rfl) ?_
            refine g_ev (e_mv) ?_
            refine g_ev (e_mv) ?_
            refine g_own (m := s.bs.length) (v := .slice sl s.bs.length cp) (e := 5) (k := 1) (xs := bv s.bs) (by omega) (by repeat ((conv => arg 2; whnf); first | with_reducible exact .here | ((with_reducible refine Del.hereC ?_); rfl) | ((with_reducible refine Del.hereS ?_ ?_ ?_) <;> rfl) | exact .here | apply Del.there)) fun b1 cap rest hv hv1 hv2 hv3 hv4 => ?_
            cases hv
            refine g_ev (e_ia Try.underlying22 Try.sizeOf5 rfl rfl (q := at_.toNat) (by omega) (by omega)) ?_
            refine g_eff (s_st Try.sizeOf5 rfl (by repeat ((conv => arg 3; whnf); first | with_reducible exact .here | apply Turn.there))) ?_
            rintro _ _ ⟨rfl, rfl⟩
            refine g_nil ?_
            refine gc_seq ?_
            refine gc_region ?_
            refine g_ev (e_mv) ?_
            refine g_ev (e_mv) ?_
            refine g_ev (e_nc rfl) ?_
            refine g_ev (e_fa Try.underlying47 rfl rfl Try.sizeOf3) ?_
            refine g_ev (e_ld Try.underlying3 rfl (by repeat ((conv => arg 2; whnf); first | with_reducible exact .here | ((with_reducible refine Del.hereC ?_); rfl) | ((with_reducible refine Del.hereS ?_ ?_ ?_) <;> rfl) | exact .here | apply Del.there)) rfl) ?_
            refine g_ev (e_addw rfl rfl) ?_
            refine g_ev (e_nc rfl) ?_
            refine g_ev (e_fa Try.underlying47 rfl rfl Try.sizeOf3) ?_
            refine g_eff (s_st Try.sizeOf3 rfl (by repeat ((conv => arg 3; whnf); first | with_reducible exact .here | apply Turn.there))) ?_
            rintro _ _ ⟨rfl, rfl⟩
            refine g_nil ?_
            refine gc_seq ?_
            refine gc_region ?_
            refine g_ev (e_as) ?_
            refine g_nil ?_
            refine gc_ret ?_
            exact absurd c39 (by simp [c26])
          · skip
            refine gc_skip ?_
            refine gc_seq ?_
            refine gc_region ?_
            refine g_ev (e_mv) ?_
            refine g_ev (e_nc rfl) ?_
            refine g_ev (e_fa Try.underlying47 rfl rfl Try.sizeOf22) ?_
            refine g_ev (e_ld Try.underlying22 rfl (by repeat ((conv => arg 2; whnf); first | with_reducible exact .here | ((with_reducible refine Del.hereC ?_); rfl) | ((with_reducible refine Del.hereS ?_ ?_ ?_) <;> rfl) | exact .here | apply Del.there)) rfl) ?_
            refine g_ev (e_mv) ?_
            refine g_ev (e_mv) ?_
            refine g_own (m := s.bs.length) (v := .slice sl s.bs.length cp) (e := 5) (k := 1) (xs := bv s.bs) (by omega) (by repeat ((conv => arg 2; whnf); first | with_reducible exact .here | ((with_reducible refine Del.hereC ?_); rfl) | ((with_reducible refine Del.hereS ?_ ?_ ?_) <;> rfl) | exact .here | apply Del.there)) fun b1 cap rest hv hv1 hv2 hv3 hv4 => ?_
            cases hv
            refine g_ev (e_ia Try.underlying22 Try.sizeOf5 rfl rfl (q := at_.toNat) (by omega) (by omega)) ?_
            refine g_eff (s_st Try.sizeOf5 rfl (by repeat ((conv => arg 3; whnf); first | with_reducible exact .here | apply Turn.there))) ?_
            rintro _ _ ⟨rfl, rfl⟩
            refine g_nil ?_
            refine gc_seq ?_
            refine gc_region ?_
            refine g_ev (e_mv) ?_
            refine g_ev (e_mv) ?_
            refine g_ev (e_nc rfl) ?_
            refine g_ev (e_fa Try.underlying47 rfl rfl Try.sizeOf3) ?_
            refine g_ev (e_ld Try.underlying3 rfl (by repeat ((conv => arg 2; whnf); first | with_reducible exact .here | ((with_reducible refine Del.hereC ?_); rfl) | ((with_reducible refine Del.hereS ?_ ?_ ?_) <;> rfl) | exact .here | apply Del.there)) rfl) ?_
            refine g_ev (e_addw rfl rfl) ?_
            refine g_ev (e_nc rfl) ?_
            refine g_ev (e_fa Try.underlying47 rfl rfl Try.sizeOf3) ?_
            refine g_eff (s_st Try.sizeOf3 rfl (by repeat ((conv => arg 3; whnf); first | with_reducible exact .here | apply Turn.there))) ?_
            rintro _ _ ⟨rfl, rfl⟩
            refine g_nil ?_
            refine gc_seq ?_
            refine gc_region ?_
            refine g_ev (e_as) ?_
            refine g_nil ?_
            refine gc_ret ?_
            have hset : bv (s.bs.set at_.toNat c) ++ rest = (bv s.bs ++ rest).set at_.toNat (.int .u8 (c.toNat : Int)) := by rw [List.set_append_left _ _ (by rw [bv_len]; omega)]; simp [bv, List.map_set]
            exact (ret1 (L1 := [refP b { s with bs := s.bs.set at_.toNat c, writes := IntKind.i64.wrap (s.writes + 1) }]) rfl (by (conv => lhs; whnf); try rfl) (by unfold MemS.write; rw [if_neg (by simp [c10]), if_neg (by omega), if_neg (fun h => by simp [c26] at h), if_neg (by simp [c26])]; exact And.intro rfl rfl) (fun _ h => h.fin (.fold (M := refM b { s with bs := s.bs.set at_.toNat c, writes := IntKind.i64.wrap (s.writes + 1) } (.slice (some ⟨b1, 0, none⟩) s.bs.length cp)) (fun _ h => ⟨_, h⟩) (.cons (by first | (rw [hset]; repeat ((conv => arg 2; whnf); first | with_reducible exact .here | ((with_reducible refine Del.hereC ?_); rfl) | ((with_reducible refine Del.hereS ?_ ?_ ?_) <;> rfl) | exact .here | apply Del.there)) | repeat ((conv => arg 2; whnf); first | with_reducible exact .here | ((with_reducible refine Del.hereC ?_); rfl) | ((with_reducible refine Del.hereS ?_ ?_ ?_) <;> rfl) | exact .here | apply Del.there)) (.fold (M := [blk b1 5 (bv (s.bs.set at_.toNat c) ++ rest)]) (own_fold (rest := rest) (by simp; rfl) (by simp [bv]) (by simp; omega) (by omega) (by rw [← hv4]; simp [bv])) (.cons (by first | (rw [hset]; repeat ((conv => arg 2; whnf); first | with_reducible exact .here | ((with_reducible refine Del.hereC ?_); rfl) | ((with_reducible refine Del.hereS ?_ ?_ ?_) <;> rfl) | exact .here | apply Del.there)) | repeat ((conv => arg 2; whnf); first | with_reducible exact .here | ((with_reducible refine Del.hereC ?_); rfl) | ((with_reducible refine Del.hereS ?_ ?_ ?_) <;> rfl) | exact .here | apply Del.there)) .done))))))

theorem rarm_t (b : Nat) (s : MemS) (n : Int) : Tri Try.prog 21 #[.pointer (some ⟨b, 0, none⟩), .int .i64 n] [refP b s] (isR (.int .i64 (s.arm n).1) [refP b (s.arm n).2]) := by
  refine tri_of Try.call21 Try.func21 rfl fun B F => ?_
  refine gc_open (refM b s) .here (fun _ h => h) (fun bsl => ?_)
  refine gc_seq ?_
  refine gc_region ?_
  refine g_ev (e_as) ?_
  refine g_nil ?_
  refine gc_seq ?_
  refine gc_seq ?_
  refine gc_region ?_
  refine g_ev (e_mv) ?_
  refine g_ev (e_lt rfl rfl) ?_
  refine g_nil ?_
  first | refine gc_dec rfl (fun c6 => ?_) (fun c6 => ?_) | refine gc_ndec rfl (fun c6 => ?_) (fun c6 => ?_) | refine gc_cond rfl (fun c6 => ?_) (fun c6 => ?_)
  · skip
    refine gc_seq ?_
    refine gc_region ?_
    refine g_ev (e_as) ?_
    refine g_nil ?_
    refine gc_ret ?_
    exact (ret1 (L1 := [refP b s]) rfl (by (conv => lhs; whnf); try rfl) (by rw [MemS.arm, if_pos c6]; exact And.intro rfl rfl) (fun _ h => h.fin (.fold (M := refM b s _) (fun _ h => ⟨_, h⟩) (by repeat ((conv => arg 1; whnf); (conv => arg 2; whnf); first | with_reducible exact .done | exact Fin.all _ | refine .cons (by repeat ((conv => arg 2; whnf); first | with_reducible exact .here | ((with_reducible refine Del.hereC ?_); rfl) | ((with_reducible refine Del.hereS ?_ ?_ ?_) <;> rfl) | exact .here | apply Del.there)) ?_ | refine .drop ?_)))))
  · skip
    refine gc_skip ?_
    refine gc_seq ?_
    refine gc_region ?_
    refine g_ev (e_mv) ?_
    refine g_ev (e_nc rfl) ?_
    refine g_ev (e_fa Try.underlying47 rfl rfl Try.sizeOf4) ?_
    refine g_eff (s_st Try.sizeOf4 rfl (by repeat ((conv => arg 3; whnf); first | with_reducible exact .here | apply Turn.there))) ?_
    rintro _ _ ⟨rfl, rfl⟩
    refine g_nil ?_
    refine gc_seq ?_
    refine gc_region ?_
    refine g_ev (e_mv) ?_
    refine g_ev (e_mv) ?_
    refine g_ev (e_nc rfl) ?_
    refine g_ev (e_fa Try.underlying47 rfl rfl Try.sizeOf3) ?_
    refine g_eff (s_st Try.sizeOf3 rfl (by repeat ((conv => arg 3; whnf); first | with_reducible exact .here | apply Turn.there))) ?_
    rintro _ _ ⟨rfl, rfl⟩
    refine g_nil ?_
    refine gc_seq ?_
    refine gc_region ?_
    refine g_ev (e_as) ?_
    refine g_nil ?_
    refine gc_ret ?_
    exact (ret1 (L1 := [refP b { s with armed := true, left := n }]) rfl (by (conv => lhs; whnf); try rfl) (by rw [MemS.arm, if_neg c6]; exact And.intro rfl rfl) (fun _ h => h.fin (.fold (M := refM b { s with armed := true, left := n } _) (fun _ h => ⟨_, h⟩) (by repeat ((conv => arg 1; whnf); (conv => arg 2; whnf); first | with_reducible exact .done | exact Fin.all _ | refine .cons (by repeat ((conv => arg 2; whnf); first | with_reducible exact .here | ((with_reducible refine Del.hereC ?_); rfl) | ((with_reducible refine Del.hereS ?_ ?_ ?_) <;> rfl) | exact .here | apply Del.there)) ?_ | refine .drop ?_)))))

theorem ron_t (b : Nat) (s : MemS) : Tri Try.prog 23 #[.pointer (some ⟨b, 0, none⟩)] [refP b s] (isR (.tuple #[]) [refP b s.on]) := by
  refine tri_of Try.call23 Try.func23 rfl fun B F => ?_
  refine gc_open (refM b s) .here (fun _ h => h) (fun bsl => ?_)
  refine gc_seq ?_
  refine gc_region ?_
  refine g_ev (e_mv) ?_
  refine g_ev (e_nc rfl) ?_
  refine g_ev (e_fa Try.underlying47 rfl rfl Try.sizeOf4) ?_
  refine g_eff (s_st Try.sizeOf4 rfl (by repeat ((conv => arg 3; whnf); first | with_reducible exact .here | apply Turn.there))) ?_
  rintro _ _ ⟨rfl, rfl⟩
  refine g_nil ?_
  refine gc_region ?_
  refine g_ev (e_mv) ?_
  refine g_ev (e_nc rfl) ?_
  refine g_ev (e_fa Try.underlying47 rfl rfl Try.sizeOf4) ?_
  refine g_eff (s_st Try.sizeOf4 rfl (by repeat ((conv => arg 3; whnf); first | with_reducible exact .here | apply Turn.there))) ?_
  rintro _ _ ⟨rfl, rfl⟩
  refine g_nil ?_
  exact (end0 rfl ⟨rfl, rfl⟩ (fun _ h => h.fin (.fold (M := refM b s.on _) (fun _ h => ⟨_, h⟩) (by repeat ((conv => arg 1; whnf); (conv => arg 2; whnf); first | with_reducible exact .done | exact Fin.all _ | refine .cons (by repeat ((conv => arg 2; whnf); first | with_reducible exact .here | ((with_reducible refine Del.hereC ?_); rfl) | ((with_reducible refine Del.hereS ?_ ?_ ?_) <;> rfl) | exact .here | apply Del.there)) ?_ | refine .drop ?_)))))


theorem info5' : Try.prog.info? 5 = some Try.t5 := by kernel_rfl

theorem rload_t {a : Option Addr} {c : Nat} {bs : List UInt8} {L0 : List HProp} (hr : ∀ B w, Sat B w L0 → Rds w 1 (.slice a bs.length c) bs.length (bv bs)) (nl : Bool) : Tri Try.prog 12 #[.slice a bs.length c] L0 (fun v L => if 4096 < bs.length then v = .tuple #[.pointer none, .int .i64 2] ∧ L = L0 else ∃ b, v = .tuple #[.pointer (some ⟨b, 0, none⟩), .int .i64 0] ∧ L = refP b ⟨bs, false, false, 0, 0, nl⟩ :: L0) := by
  refine tri_of Try.call12 Try.func12 rfl fun B F => ?_
  refine gc_seq ?_
  refine gc_region ?_
  refine g_ev (e_as) ?_
  refine g_ev (e_as) ?_
  refine g_nil ?_
  refine gc_seq ?_
  refine gc_seq ?_
  refine gc_region ?_
  refine g_ev (e_mv) ?_
  refine g_ev (e_len Try.underlying22 rfl) ?_
  refine g_ev (e_gt rfl rfl) ?_
  refine g_nil ?_
  first | refine gc_dec rfl (fun c6 => ?_) (fun c6 => ?_) | refine gc_ndec rfl (fun c6 => ?_) (fun c6 => ?_) | refine gc_cond rfl (fun c6 => ?_) (fun c6 => ?_)
  · skip
    refine gc_seq ?_
    refine gc_region ?_
    refine g_ev (e_as) ?_
    refine g_ev (e_as) ?_
    refine g_nil ?_
    refine gc_ret ?_
    exact (ret2 (L1 := L0) rfl (by (conv => lhs; whnf); try rfl) (by (conv => lhs; whnf); try rfl) (by rw [if_pos (by omega)]; exact And.intro rfl rfl) (fun _ h => h))
  · skip
    refine gc_skip ?_
    refine gc_seq ?_
    refine gc_region ?_
    refine g_eff (s_bs0 Try.underlying22 Try.sizeOf5) ?_
    rintro _ _ ⟨b7, rfl, rfl⟩
    refine g_ev (e_mv) ?_
    refine g_eff (s_ap0 (bytes := 1) Try.underlying22 info5' rfl rfl rfl rfl (by decide) rfl rfl .here (fun B w h => hr B w h.tail.left) (bv_one _) (by omega) (by unfold maxLen; omega)) ?_
    rintro _ _ ⟨a2, c2, rfl, rfl, hnil⟩
    refine g_ev (e_bd Try.underlying47 Try.zeroValue47 pl47 rfl) ?_
    refine g_eff (s_bx) ?_
    rintro _ _ ⟨b11, rfl, rfl⟩
    refine g_ev (e_as) ?_
    refine g_ev (e_as) ?_
    refine g_nil ?_
    refine gc_ret ?_
    exact (ret2 (L1 := refP b11 ⟨bs, false, false, 0, 0, nl⟩ :: L0) rfl (by (conv => lhs; whnf); try rfl) (by (conv => lhs; whnf); try rfl) (by rw [if_neg (by omega)]; exact ⟨b11, rfl, rfl⟩) (fun _ h => h.fin (.fold (M := refM b11 ⟨bs, false, false, 0, 0, nl⟩ (.slice a2 bs.length c2)) (fun _ h => ⟨_, h⟩) (.cons .here (.cons .here (.all _))))))

theorem word4_t {b off c T : Nat} {cs : List Value} (x : Nat → Nat) (hx : ∀ i, x i < 256) (h0 : cs[off]? = some (.int .u8 (x 0 : Int))) (h1 : cs[off + 1]? = some (.int .u8 (x 1 : Int))) (h2 : cs[off + 2]? = some (.int .u8 (x 2 : Int))) (h3 : cs[off + 3]? = some (.int .u8 (x 3 : Int))) : Tri Try.prog 41 #[.slice (some ⟨b, off, none⟩) 4 c] [blk b T cs] (isR (.int .u32 (((((0 * 2 ^ 8 + x 0) * 2 ^ 8 + x 1) * 2 ^ 8 + x 2) * 2 ^ 8 + x 3 : Nat) : Int)) [blk b T cs]) := by
  refine tri_of Try.call41 Try.func41 rfl fun B F => ?_
  have x0 := hx 0
  have x1 := hx 1
  have x2 := hx 2
  have x3 := hx 3
  refine gc_seq ?_
  refine gc_region ?_
  refine g_ev (e_as) ?_
  refine g_nil ?_
  refine gc_seq ?_
  refine gc_draw (D := []) (fin := none) (plan := [(true, 0), (true, 1), (true, 2), (true, 3), (true, 4), (true, 5), (true, 6), (true, 7), (true, 8), (true, 9), (true, 10), (true, 11), (true, 12), (true, 13), (true, 14), (true, 15), (true, 16), (true, 17), (true, 18), (true, 19), (true, 20), (true, 21), (true, 22)]) rfl (by kernel_rfl) (by kernel_rfl) rfl .nil ?_
  refine gp_ev rfl (e_mv) ?_
  refine gp_ev rfl (e_ia Try.underlying22 Try.sizeOf5 rfl rfl (q := 0) (o := off) rfl (by decide) (by omega)) ?_
  refine gp_ev rfl (e_ld (v := .int .u8 (x 0 : Int)) Try.underlying5 rfl (by repeat ((conv => arg 2; whnf); first | with_reducible exact .here | ((with_reducible refine Del.hereC ?_); rfl) | ((with_reducible refine Del.hereS ?_ ?_ ?_) <;> rfl) | exact .here | apply Del.there)) h0) ?_
  refine gp_ev rfl ((e_cv Try.underlying5 Try.underlying35 rfl).to (v' := .int .u32 ((x 0 : Nat) : Int)) (congrArg _ (wrapU rfl (by omega)))) ?_
  refine gp_ev rfl ((e_shl rfl rfl (by decide)).to (v' := .int .u32 ((x 0 * 16777216 : Nat) : Int)) (congrArg _ (wrapU (by rw [Int.natCast_mul]; rfl) (by omega)))) ?_
  refine gp_ev rfl (e_mv) ?_
  refine gp_ev rfl (e_ia Try.underlying22 Try.sizeOf5 rfl rfl (q := 1) (o := off + 1) rfl (by decide) (by omega)) ?_
  refine gp_ev rfl (e_ld (v := .int .u8 (x 1 : Int)) Try.underlying5 rfl (by repeat ((conv => arg 2; whnf); first | with_reducible exact .here | ((with_reducible refine Del.hereC ?_); rfl) | ((with_reducible refine Del.hereS ?_ ?_ ?_) <;> rfl) | exact .here | apply Del.there)) h1) ?_
  refine gp_ev rfl ((e_cv Try.underlying5 Try.underlying35 rfl).to (v' := .int .u32 ((x 1 : Nat) : Int)) (congrArg _ (wrapU rfl (by omega)))) ?_
  refine gp_ev rfl ((e_shl rfl rfl (by decide)).to (v' := .int .u32 ((x 1 * 65536 : Nat) : Int)) (congrArg _ (wrapU (by rw [Int.natCast_mul]; rfl) (by omega)))) ?_
  refine gp_ev rfl ((e_or rfl rfl).to (v' := .int .u32 (((x 0 * 256 + x 1) * 65536 : Nat) : Int)) (congrArg _ ((or32 (a := x 0) (k := 24) (c := x 1 * 65536) rfl rfl (by omega) (by omega)).trans (by omega)))) ?_
  refine gp_ev rfl (e_mv) ?_
  refine gp_ev rfl (e_ia Try.underlying22 Try.sizeOf5 rfl rfl (q := 2) (o := off + 2) rfl (by decide) (by omega)) ?_
  refine gp_ev rfl (e_ld (v := .int .u8 (x 2 : Int)) Try.underlying5 rfl (by repeat ((conv => arg 2; whnf); first | with_reducible exact .here | ((with_reducible refine Del.hereC ?_); rfl) | ((with_reducible refine Del.hereS ?_ ?_ ?_) <;> rfl) | exact .here | apply Del.there)) h2) ?_
  refine gp_ev rfl ((e_cv Try.underlying5 Try.underlying35 rfl).to (v' := .int .u32 ((x 2 : Nat) : Int)) (congrArg _ (wrapU rfl (by omega)))) ?_
  refine gp_ev rfl ((e_shl rfl rfl (by decide)).to (v' := .int .u32 ((x 2 * 256 : Nat) : Int)) (congrArg _ (wrapU (by rw [Int.natCast_mul]; rfl) (by omega)))) ?_
  refine gp_ev rfl ((e_or rfl rfl).to (v' := .int .u32 ((((x 0 * 256 + x 1) * 256 + x 2) * 256 : Nat) : Int)) (congrArg _ ((or32 (a := x 0 * 256 + x 1) (k := 16) (c := x 2 * 256) rfl rfl (by omega) (by omega)).trans (by omega)))) ?_
  refine gp_ev rfl (e_mv) ?_
  refine gp_ev rfl (e_ia Try.underlying22 Try.sizeOf5 rfl rfl (q := 3) (o := off + 3) rfl (by decide) (by omega)) ?_
  refine gp_ev rfl (e_ld (v := .int .u8 (x 3 : Int)) Try.underlying5 rfl (by repeat ((conv => arg 2; whnf); first | with_reducible exact .here | ((with_reducible refine Del.hereC ?_); rfl) | ((with_reducible refine Del.hereS ?_ ?_ ?_) <;> rfl) | exact .here | apply Del.there)) h3) ?_
  refine gp_ev rfl ((e_cv Try.underlying5 Try.underlying35 rfl).to (v' := .int .u32 ((x 3 : Nat) : Int)) (congrArg _ (wrapU rfl (by omega)))) ?_
  refine gp_ev rfl ((e_or rfl rfl).to (v' := .int .u32 (((((0 * 2 ^ 8 + x 0) * 2 ^ 8 + x 1) * 2 ^ 8 + x 2) * 2 ^ 8 + x 3 : Nat) : Int)) (congrArg _ ((or32 (a := (x 0 * 256 + x 1) * 256 + x 2) (k := 8) (c := x 3) rfl rfl (by omega) (by omega)).trans (by omega)))) ?_
  refine gp_ev rfl (e_as) ?_
  refine gp_nil ?_
  refine gc_ret ?_
  exact (ret1 rfl (by (conv => lhs; whnf); try rfl) ⟨rfl, rfl⟩ (fun _ h => h.fin (by repeat ((conv => arg 1; whnf); (conv => arg 2; whnf); first | with_reducible exact .done | exact Fin.all _ | refine .cons (by repeat ((conv => arg 2; whnf); first | with_reducible exact .here | ((with_reducible refine Del.hereC ?_); rfl) | ((with_reducible refine Del.hereS ?_ ?_ ?_) <;> rfl) | exact .here | apply Del.there)) ?_ | refine .drop ?_))))

theorem holds_t (b : Nat) (s : MemS) (k : Nat) (hk : 5 * k < s.bs.length) (hm : s.bs.length ≤ 4096) : Tri Try.prog 32 #[.pointer (some ⟨b, 0, none⟩), .int .i64 (k : Int)] [refP b s] (isR (.bool (decide (((s.by (5 * k) : Nat) : Int) = 165))) [refP b s]) := by
  refine tri_of Try.call32 Try.func32 rfl fun B F => ?_
  refine gc_open (refM b s) .here (fun _ h => h) (fun bsl => ?_)
  refine gc_fact (φ := slV bsl s.bs.length) (fun w h => (h.rds (.there .here)).slv) fun ⟨sl, cp, hsl, hnl, hni⟩ => ?_
  subst hsl
  refine gc_seq ?_
  refine gc_region ?_
  refine g_ev (e_as) ?_
  refine g_nil ?_
  refine gc_seq ?_
  refine gc_region ?_
  refine g_ev (e_mv) ?_
  refine g_ev (e_nc rfl) ?_
  refine g_ev (e_fa Try.underlying47 rfl rfl Try.sizeOf22) ?_
  refine g_ev (e_ld Try.underlying22 rfl (by repeat ((conv => arg 2; whnf); first | with_reducible exact .here | ((with_reducible refine Del.hereC ?_); rfl) | ((with_reducible refine Del.hereS ?_ ?_ ?_) <;> rfl) | exact .here | apply Del.there)) rfl) ?_
  refine g_ev (e_mv) ?_
  refine g_ev ((e_mulw rfl rfl).to (v' := .int .i64 ((5 * k : Nat) : Int)) (congrArg _ (wrapN (by omega) (by omega)))) ?_
  refine g_own (m := s.bs.length) (v := .slice sl s.bs.length cp) (e := 5) (k := 1) (xs := bv s.bs) (by omega) (by repeat ((conv => arg 2; whnf); first | with_reducible exact .here | ((with_reducible refine Del.hereC ?_); rfl) | ((with_reducible refine Del.hereS ?_ ?_ ?_) <;> rfl) | exact .here | apply Del.there)) fun b1 cap rest hv hv1 hv2 hv3 hv4 => ?_
  cases hv
  refine g_ev (e_ia Try.underlying22 Try.sizeOf5 rfl rfl (q := 5 * k) rfl (by omega)) ?_
  refine g_ev (e_ld (v := .int .u8 ((s.by (5 * k) : Nat) : Int)) Try.underlying5 rfl (by repeat ((conv => arg 2; whnf); first | with_reducible exact .here | ((with_reducible refine Del.hereC ?_); rfl) | ((with_reducible refine Del.hereS ?_ ?_ ?_) <;> rfl) | exact .here | apply Del.there)) (by rw [List.getElem?_append_left (by rw [bv_len]; omega)]; simpa using MemS.by_get hk)) ?_
  refine g_ev (e_eq rfl rfl) ?_
  refine g_ev (e_as) ?_
  refine g_nil ?_
  refine gc_ret ?_
  exact (ret1 (L1 := [refP b s]) rfl (by (conv => lhs; whnf); try rfl) ⟨rfl, rfl⟩ (fun _ h => h.fin (.fold (M := refM b s (.slice (some ⟨b1, 0, none⟩) s.bs.length cp)) (fun _ h => ⟨_, h⟩) (.cons (by first | (rw [hset]; repeat ((conv => arg 2; whnf); first | with_reducible exact .here | ((with_reducible refine Del.hereC ?_); rfl) | ((with_reducible refine Del.hereS ?_ ?_ ?_) <;> rfl) | exact .here | apply Del.there)) | repeat ((conv => arg 2; whnf); first | with_reducible exact .here | ((with_reducible refine Del.hereC ?_); rfl) | ((with_reducible refine Del.hereS ?_ ?_ ?_) <;> rfl) | exact .here | apply Del.there)) (.fold (M := [blk b1 5 (bv s.bs ++ rest)]) (own_fold (rest := rest) rfl (by simp [bv]) (by omega) (by omega) (by rw [← hv4])) (.cons (by first | (rw [hset]; repeat ((conv => arg 2; whnf); first | with_reducible exact .here | ((with_reducible refine Del.hereC ?_); rfl) | ((with_reducible refine Del.hereS ?_ ?_ ?_) <;> rfl) | exact .here | apply Del.there)) | repeat ((conv => arg 2; whnf); first | with_reducible exact .here | ((with_reducible refine Del.hereC ?_); rfl) | ((with_reducible refine Del.hereS ?_ ?_ ?_) <;> rfl) | exact .here | apply Del.there)) .done))))))

theorem rword_t (b : Nat) (s : MemS) (k : Nat) (hk : 5 * k + 4 < s.bs.length) (hm : s.bs.length ≤ 4096) : Tri Try.prog 34 #[.pointer (some ⟨b, 0, none⟩), .int .i64 (k : Int)] [refP b s] (isR (.int .u32 ((s.word k : Nat) : Int)) [refP b s]) := by
  refine tri_of Try.call34 Try.func34 rfl fun B F => ?_
  refine gc_open (refM b s) .here (fun _ h => h) (fun bsl => ?_)
  refine gc_fact (φ := slV bsl s.bs.length) (fun w h => (h.rds (.there .here)).slv) fun ⟨sl, cp, hsl, hnl, hni⟩ => ?_
  subst hsl
  refine gc_seq ?_
  refine gc_region ?_
  refine g_ev (e_as) ?_
  refine g_nil ?_
  refine gc_seq ?_
  refine gc_region ?_
  refine g_ev (e_mv) ?_
  refine g_ev (e_nc rfl) ?_
  refine g_ev (e_fa Try.underlying47 rfl rfl Try.sizeOf22) ?_
  refine g_ev (e_ld Try.underlying22 rfl (by repeat ((conv => arg 2; whnf); first | with_reducible exact .here | ((with_reducible refine Del.hereC ?_); rfl) | ((with_reducible refine Del.hereS ?_ ?_ ?_) <;> rfl) | exact .here | apply Del.there)) rfl) ?_
  refine g_ev (e_mv) ?_
  refine g_ev ((e_mulw rfl rfl).to (v' := .int .i64 ((5 * k : Nat) : Int)) (congrArg _ (wrapN (by omega) (by omega)))) ?_
  refine g_ev ((e_addw rfl rfl).to (v' := .int .i64 ((5 * k + 1 : Nat) : Int)) (congrArg _ (wrapN (by omega) (by omega)))) ?_
  refine g_ev (e_mv) ?_
  refine g_ev ((e_mulw rfl rfl).to (v' := .int .i64 ((5 * k : Nat) : Int)) (congrArg _ (wrapN (by omega) (by omega)))) ?_
  refine g_ev ((e_addw rfl rfl).to (v' := .int .i64 ((5 * k + 5 : Nat) : Int)) (congrArg _ (wrapN (by omega) (by omega)))) ?_
  refine g_own (m := s.bs.length) (v := .slice sl s.bs.length cp) (e := 5) (k := 1) (xs := bv s.bs) (by omega) (by repeat ((conv => arg 2; whnf); first | with_reducible exact .here | ((with_reducible refine Del.hereC ?_); rfl) | ((with_reducible refine Del.hereS ?_ ?_ ?_) <;> rfl) | exact .here | apply Del.there)) fun b1 cap rest hv hv1 hv2 hv3 hv4 => ?_
  cases hv
  refine g_ev ((e_sl2 (lo := 5 * k + 1) (hi := 5 * k + 5) Try.underlying22 Try.sizeOf5 rfl rfl rfl (by omega) (by omega) (by omega)).to (v' := .slice (some ⟨b1, 5 * k + 1, none⟩) 4 (cp - (5 * k + 1))) (by rw [if_neg (by omega), show 5 * k + 5 - (5 * k + 1) = 4 by omega, Nat.zero_add, Nat.mul_one])) ?_
  refine g_eff (s_call (word4_t (off := 5 * k + 1) (T := 5) (cs := bv s.bs ++ rest) (fun i => s.by (5 * k + 1 + i)) (fun i => s.by_lt _) (by rw [List.getElem?_append_left (by rw [bv_len]; omega)]; exact MemS.by_get (by omega)) (by rw [List.getElem?_append_left (by rw [bv_len]; omega)]; exact MemS.by_get (by omega)) (by rw [List.getElem?_append_left (by rw [bv_len]; omega)]; exact MemS.by_get (by omega)) (by rw [List.getElem?_append_left (by rw [bv_len]; omega)]; exact MemS.by_get (by omega))) (.cons (by repeat ((conv => arg 2; whnf); first | with_reducible exact .here | ((with_reducible refine Del.hereC ?_); rfl) | ((with_reducible refine Del.hereS ?_ ?_ ?_) <;> rfl) | exact .here | apply Del.there)) .nil)) ?_
  rintro _ _ ⟨_, ⟨rfl, rfl⟩, rfl⟩
  refine g_ev (e_as) ?_
  refine g_nil ?_
  refine gc_ret ?_
  exact (ret1 (L1 := [refP b s]) rfl (by (conv => lhs; whnf); try rfl) ⟨rfl, rfl⟩ (fun _ h => h.fin (.fold (M := refM b s (.slice (some ⟨b1, 0, none⟩) s.bs.length cp)) (fun _ h => ⟨_, h⟩) (.cons (by first | (rw [hset]; repeat ((conv => arg 2; whnf); first | with_reducible exact .here | ((with_reducible refine Del.hereC ?_); rfl) | ((with_reducible refine Del.hereS ?_ ?_ ?_) <;> rfl) | exact .here | apply Del.there)) | repeat ((conv => arg 2; whnf); first | with_reducible exact .here | ((with_reducible refine Del.hereC ?_); rfl) | ((with_reducible refine Del.hereS ?_ ?_ ?_) <;> rfl) | exact .here | apply Del.there)) (.fold (M := [blk b1 5 (bv s.bs ++ rest)]) (own_fold (rest := rest) rfl (by simp [bv]) (by omega) (by omega) (by rw [← hv4])) (.cons (by first | (rw [hset]; repeat ((conv => arg 2; whnf); first | with_reducible exact .here | ((with_reducible refine Del.hereC ?_); rfl) | ((with_reducible refine Del.hereS ?_ ?_ ?_) <;> rfl) | exact .here | apply Del.there)) | repeat ((conv => arg 2; whnf); first | with_reducible exact .here | ((with_reducible refine Del.hereC ?_); rfl) | ((with_reducible refine Del.hereS ?_ ?_ ?_) <;> rfl) | exact .here | apply Del.there)) .done))))))

theorem rslot_t (b : Nat) (s : MemS) (k w : Nat) (hk : k ≤ 1) : Tri Try.prog 33 #[.pointer (some ⟨b, 0, none⟩), .int .i64 (k : Int), .int .u32 (w : Int)] [refP b s] (isR (.int .i64 (s.slot k w).1) [refP b (s.slot k w).2]) := by
  refine tri_of Try.call33 Try.func33 rfl fun B F => ?_
  refine gc_seq ?_
  refine gc_region ?_
  refine g_ev (e_as) ?_
  refine g_nil ?_
  refine gc_seq ?_
  refine gc_region ?_
  refine g_eff (s_bs Try.underlying91 Try.sizeOf3 Try.zeroValue3 rfl) ?_
  rintro _ _ ⟨b11, rfl, rfl⟩
  refine g_ev (e_as) ?_
  refine g_nil ?_
  refine gc_seq ?_
  refine gc_region ?_
  refine g_ev (e_mv) ?_
  refine g_ev ((e_shr rfl rfl (by decide)).to (v' := .int .u32 ((w / 2 ^ 24 : Nat) : Int)) (congrArg _ (fdivN (k := 24)))) ?_
  refine g_ev ((e_cv Try.underlying35 Try.underlying5 rfl).to (v' := .int .u8 ((wb w 24).toNat : Int)) (congrArg _ (byteW rfl))) ?_
  refine g_ev (e_mv) ?_
  refine g_ev ((e_shr rfl rfl (by decide)).to (v' := .int .u32 ((w / 2 ^ 16 : Nat) : Int)) (congrArg _ (fdivN (k := 16)))) ?_
  refine g_ev ((e_cv Try.underlying35 Try.underlying5 rfl).to (v' := .int .u8 ((wb w 16).toNat : Int)) (congrArg _ (byteW rfl))) ?_
  refine g_ev (e_mv) ?_
  refine g_ev ((e_shr rfl rfl (by decide)).to (v' := .int .u32 ((w / 2 ^ 8 : Nat) : Int)) (congrArg _ (fdivN (k := 8)))) ?_
  refine g_ev ((e_cv Try.underlying35 Try.underlying5 rfl).to (v' := .int .u8 ((wb w 8).toNat : Int)) (congrArg _ (byteW rfl))) ?_
  refine g_ev (e_mv) ?_
  refine g_ev ((e_cv Try.underlying35 Try.underlying5 rfl).to (v' := .int .u8 ((wb w 0).toNat : Int)) (congrArg _ (byteW (by simp)))) ?_
  refine g_eff (s_bs Try.underlying22 Try.sizeOf5 Try.zeroValue5 rfl) ?_
  rintro _ _ ⟨b23, rfl, rfl⟩
  refine g_ev (e_as) ?_
  refine g_nil ?_
  refine gc_seq ?_
  refine gc_seq ?_
  refine gc_region ?_
  refine g_ev (e_as) ?_
  refine g_nil ?_
  refine gc_block ?_
  refine gl_start ?_
  refine gl_round ?_
  refine gc_seq ?_
  refine gc_seq ?_
  refine gc_region ?_
  refine g_ev (e_mv) ?_
  refine g_ev (e_lt rfl rfl) ?_
  refine g_nil ?_
  refine gc_true ?_ (hc := by first | ((conv => lhs; whnf); done) | ((conv => lhs; whnf); rfl))
  refine gc_skip ?_
  refine gc_seq ?_
  refine gc_block ?_
  refine gc_seq ?_
  refine gc_draw (D := [refP b (ws s ((slotW k w).take 0))]) (fin := none) (plan := [(true, 0), (true, 1), (true, 2), (true, 3), (true, 4), (true, 5), (true, 6), (true, 7), (true, 8), (true, 9), (true, 10), (true, 11), (false, 12), (true, 13)]) rfl (by kernel_rfl) (by kernel_rfl) rfl (.cons (by repeat ((conv => arg 2; whnf); first | with_reducible exact .here | ((with_reducible refine Del.hereC ?_); rfl) | ((with_reducible refine Del.hereS ?_ ?_ ?_) <;> rfl) | exact .here | apply Del.there)) .nil) ?_
  refine gp_ev rfl (e_mv) ?_
  refine gp_ev rfl (e_mv) ?_
  refine gp_ev rfl ((e_mulw rfl rfl).to (v' := .int .i64 ((5 * k : Nat) : Int)) (congrArg _ (wrapN (by omega) (by omega)))) ?_
  refine gp_ev rfl (e_mv) ?_
  refine gp_ev rfl (e_mv) ?_
  refine gp_ev rfl (e_ia Try.underlying91 Try.sizeOf3 rfl rfl (q := 0) rfl (by decide)) ?_
  refine gp_ev rfl (e_ld Try.underlying3 rfl (by repeat ((conv => arg 2; whnf); first | with_reducible exact .here | ((with_reducible refine Del.hereC ?_); rfl) | ((with_reducible refine Del.hereS ?_ ?_ ?_) <;> rfl) | exact .here | apply Del.there)) rfl) ?_
  refine gp_ev rfl ((e_addw rfl rfl).to (v' := .int .i64 ((5 * k : Nat) : Int)) (congrArg _ (wrapN (by omega) (by omega)))) ?_
  refine gp_ev rfl (e_mv) ?_
  refine gp_ev rfl (e_mv) ?_
  refine gp_ev rfl (e_ia Try.underlying22 Try.sizeOf5 rfl rfl (q := 0) rfl (by decide)) ?_
  refine gp_ev rfl (e_ld Try.underlying5 rfl (by repeat ((conv => arg 2; whnf); first | with_reducible exact .here | ((with_reducible refine Del.hereC ?_); rfl) | ((with_reducible refine Del.hereS ?_ ?_ ?_) <;> rfl) | exact .here | apply Del.there)) rfl) ?_
  refine gp_eff rfl (s_call (rwrite_t b (ws s ((slotW k w).take 0)) (((5 * k : Nat) : Int)) (0)) (.cons (by repeat ((conv => arg 2; whnf); first | with_reducible exact .here | ((with_reducible refine Del.hereC ?_); rfl) | ((with_reducible refine Del.hereS ?_ ?_ ?_) <;> rfl) | exact .here | apply Del.there)) (.nil))) ?_
  rintro _ _ ⟨_, ⟨rfl, rfl⟩, rfl⟩
  refine gp_ev rfl (e_as) ?_
  refine gp_nil ?_
  refine gc_seq ?_
  refine gc_region ?_
  refine g_ev (e_mv) ?_
  refine g_ev (e_ne rfl rfl) ?_
  refine g_nil ?_
  first | refine gc_dec rfl (fun c42_0 => ?_) (fun c42_0 => ?_) | refine gc_ndec rfl (fun c42_0 => ?_) (fun c42_0 => ?_) | refine gc_cond rfl (fun c42_0 => ?_) (fun c42_0 => ?_)
  · skip
    refine gc_seq ?_
    refine gc_region ?_
    refine g_ev (e_mv) ?_
    refine g_ev (e_as) ?_
    refine g_nil ?_
    refine gc_ret ?_
    exact (ret1 (v := .int .i64 ((ws s ((slotW k w).take 0)).write ((5 * k : Nat) : Int) 0).1) (L1 := [refP b (ws s ((slotW k w).take 1))]) rfl (by (conv => lhs; whnf); try rfl) (by have e : s.slot k w = _ := wseq_stop c42_0; rw [e]; exact And.intro rfl rfl) (fun _ h => h.fin (by repeat ((conv => arg 1; whnf); (conv => arg 2; whnf); first | with_reducible exact .done | exact Fin.all _ | refine .cons (by repeat ((conv => arg 2; whnf); first | with_reducible exact .here | ((with_reducible refine Del.hereC ?_); rfl) | ((with_reducible refine Del.hereS ?_ ?_ ?_) <;> rfl) | exact .here | apply Del.there)) ?_ | refine .drop ?_))))
  · skip
    refine gc_skip ?_
    refine gc_region ?_
    refine g_ev (e_mv) ?_
    refine g_ev ((e_addw rfl rfl).to (v' := .int .i64 (1 : Int)) rfl) ?_
    refine g_ev (e_as) ?_
    refine g_nil ?_
    refine gl_round ?_
    refine gc_seq ?_
    refine gc_seq ?_
    refine gc_region ?_
    refine g_ev (e_mv) ?_
    refine g_ev (e_lt rfl rfl) ?_
    refine g_nil ?_
    refine gc_true ?_ (hc := by first | ((conv => lhs; whnf); done) | ((conv => lhs; whnf); rfl))
    refine gc_skip ?_
    refine gc_seq ?_
    refine gc_block ?_
    refine gc_seq ?_
    refine gc_draw (D := [refP b (ws s ((slotW k w).take 1))]) (fin := none) (plan := [(true, 0), (true, 1), (true, 2), (true, 3), (true, 4), (true, 5), (true, 6), (true, 7), (true, 8), (true, 9), (true, 10), (true, 11), (false, 12), (true, 13)]) rfl (by kernel_rfl) (by kernel_rfl) rfl (.cons (by repeat ((conv => arg 2; whnf); first | with_reducible exact .here | ((with_reducible refine Del.hereC ?_); rfl) | ((with_reducible refine Del.hereS ?_ ?_ ?_) <;> rfl) | exact .here | apply Del.there)) .nil) ?_
    refine gp_ev rfl (e_mv) ?_
    refine gp_ev rfl (e_mv) ?_
    refine gp_ev rfl ((e_mulw rfl rfl).to (v' := .int .i64 ((5 * k : Nat) : Int)) (congrArg _ (wrapN (by omega) (by omega)))) ?_
    refine gp_ev rfl (e_mv) ?_
    refine gp_ev rfl (e_mv) ?_
    refine gp_ev rfl (e_ia Try.underlying91 Try.sizeOf3 rfl rfl (q := 1) rfl (by decide)) ?_
    refine gp_ev rfl (e_ld Try.underlying3 rfl (by repeat ((conv => arg 2; whnf); first | with_reducible exact .here | ((with_reducible refine Del.hereC ?_); rfl) | ((with_reducible refine Del.hereS ?_ ?_ ?_) <;> rfl) | exact .here | apply Del.there)) rfl) ?_
    refine gp_ev rfl ((e_addw rfl rfl).to (v' := .int .i64 ((5 * k + 1 + 0 : Nat) : Int)) (congrArg _ (wrapN (by omega) (by omega)))) ?_
    refine gp_ev rfl (e_mv) ?_
    refine gp_ev rfl (e_mv) ?_
    refine gp_ev rfl (e_ia Try.underlying22 Try.sizeOf5 rfl rfl (q := 1) rfl (by decide)) ?_
    refine gp_ev rfl (e_ld Try.underlying5 rfl (by repeat ((conv => arg 2; whnf); first | with_reducible exact .here | ((with_reducible refine Del.hereC ?_); rfl) | ((with_reducible refine Del.hereS ?_ ?_ ?_) <;> rfl) | exact .here | apply Del.there)) rfl) ?_
    refine gp_eff rfl (s_call (rwrite_t b (ws s ((slotW k w).take 1)) (((5 * k + 1 + 0 : Nat) : Int)) (wb w 24)) (.cons (by repeat ((conv => arg 2; whnf); first | with_reducible exact .here | ((with_reducible refine Del.hereC ?_); rfl) | ((with_reducible refine Del.hereS ?_ ?_ ?_) <;> rfl) | exact .here | apply Del.there)) (.nil))) ?_
    rintro _ _ ⟨_, ⟨rfl, rfl⟩, rfl⟩
    refine gp_ev rfl (e_as) ?_
    refine gp_nil ?_
    refine gc_seq ?_
    refine gc_region ?_
    refine g_ev (e_mv) ?_
    refine g_ev (e_ne rfl rfl) ?_
    refine g_nil ?_
    first | refine gc_dec rfl (fun c42_1 => ?_) (fun c42_1 => ?_) | refine gc_ndec rfl (fun c42_1 => ?_) (fun c42_1 => ?_) | refine gc_cond rfl (fun c42_1 => ?_) (fun c42_1 => ?_)
    · skip
      refine gc_seq ?_
      refine gc_region ?_
      refine g_ev (e_mv) ?_
      refine g_ev (e_as) ?_
      refine g_nil ?_
      refine gc_ret ?_
      exact (ret1 (v := .int .i64 ((ws s ((slotW k w).take 1)).write ((5 * k + 1 + 0 : Nat) : Int) (wb w 24)).1) (L1 := [refP b (ws s ((slotW k w).take 2))]) rfl (by (conv => lhs; whnf); try rfl) (by have e : s.slot k w = _ := (wseq_go c42_0).trans (wseq_stop c42_1); rw [e]; exact And.intro rfl rfl) (fun _ h => h.fin (by repeat ((conv => arg 1; whnf); (conv => arg 2; whnf); first | with_reducible exact .done | exact Fin.all _ | refine .cons (by repeat ((conv => arg 2; whnf); first | with_reducible exact .here | ((with_reducible refine Del.hereC ?_); rfl) | ((with_reducible refine Del.hereS ?_ ?_ ?_) <;> rfl) | exact .here | apply Del.there)) ?_ | refine .drop ?_))))
    · skip
      refine gc_skip ?_
      refine gc_region ?_
      refine g_ev (e_mv) ?_
      refine g_ev ((e_addw rfl rfl).to (v' := .int .i64 (2 : Int)) rfl) ?_
      refine g_ev (e_as) ?_
      refine g_nil ?_
      refine gl_round ?_
      refine gc_seq ?_
      refine gc_seq ?_
      refine gc_region ?_
      refine g_ev (e_mv) ?_
      refine g_ev (e_lt rfl rfl) ?_
      refine g_nil ?_
      refine gc_true ?_ (hc := by first | ((conv => lhs; whnf); done) | ((conv => lhs; whnf); rfl))
      refine gc_skip ?_
      refine gc_seq ?_
      refine gc_block ?_
      refine gc_seq ?_
      refine gc_draw (D := [refP b (ws s ((slotW k w).take 2))]) (fin := none) (plan := [(true, 0), (true, 1), (true, 2), (true, 3), (true, 4), (true, 5), (true, 6), (true, 7), (true, 8), (true, 9), (true, 10), (true, 11), (false, 12), (true, 13)]) rfl (by kernel_rfl) (by kernel_rfl) rfl (.cons (by repeat ((conv => arg 2; whnf); first | with_reducible exact .here | ((with_reducible refine Del.hereC ?_); rfl) | ((with_reducible refine Del.hereS ?_ ?_ ?_) <;> rfl) | exact .here | apply Del.there)) .nil) ?_
      refine gp_ev rfl (e_mv) ?_
      refine gp_ev rfl (e_mv) ?_
      refine gp_ev rfl ((e_mulw rfl rfl).to (v' := .int .i64 ((5 * k : Nat) : Int)) (congrArg _ (wrapN (by omega) (by omega)))) ?_
      refine gp_ev rfl (e_mv) ?_
      refine gp_ev rfl (e_mv) ?_
      refine gp_ev rfl (e_ia Try.underlying91 Try.sizeOf3 rfl rfl (q := 2) rfl (by decide)) ?_
      refine gp_ev rfl (e_ld Try.underlying3 rfl (by repeat ((conv => arg 2; whnf); first | with_reducible exact .here | ((with_reducible refine Del.hereC ?_); rfl) | ((with_reducible refine Del.hereS ?_ ?_ ?_) <;> rfl) | exact .here | apply Del.there)) rfl) ?_
      refine gp_ev rfl ((e_addw rfl rfl).to (v' := .int .i64 ((5 * k + 1 + 1 : Nat) : Int)) (congrArg _ (wrapN (by omega) (by omega)))) ?_
      refine gp_ev rfl (e_mv) ?_
      refine gp_ev rfl (e_mv) ?_
      refine gp_ev rfl (e_ia Try.underlying22 Try.sizeOf5 rfl rfl (q := 2) rfl (by decide)) ?_
      refine gp_ev rfl (e_ld Try.underlying5 rfl (by repeat ((conv => arg 2; whnf); first | with_reducible exact .here | ((with_reducible refine Del.hereC ?_); rfl) | ((with_reducible refine Del.hereS ?_ ?_ ?_) <;> rfl) | exact .here | apply Del.there)) rfl) ?_
      refine gp_eff rfl (s_call (rwrite_t b (ws s ((slotW k w).take 2)) (((5 * k + 1 + 1 : Nat) : Int)) (wb w 16)) (.cons (by repeat ((conv => arg 2; whnf); first | with_reducible exact .here | ((with_reducible refine Del.hereC ?_); rfl) | ((with_reducible refine Del.hereS ?_ ?_ ?_) <;> rfl) | exact .here | apply Del.there)) (.nil))) ?_
      rintro _ _ ⟨_, ⟨rfl, rfl⟩, rfl⟩
      refine gp_ev rfl (e_as) ?_
      refine gp_nil ?_
      refine gc_seq ?_
      refine gc_region ?_
      refine g_ev (e_mv) ?_
      refine g_ev (e_ne rfl rfl) ?_
      refine g_nil ?_
      first | refine gc_dec rfl (fun c42_2 => ?_) (fun c42_2 => ?_) | refine gc_ndec rfl (fun c42_2 => ?_) (fun c42_2 => ?_) | refine gc_cond rfl (fun c42_2 => ?_) (fun c42_2 => ?_)
      · skip
        refine gc_seq ?_
        refine gc_region ?_
        refine g_ev (e_mv) ?_
        refine g_ev (e_as) ?_
        refine g_nil ?_
        refine gc_ret ?_
        exact (ret1 (v := .int .i64 ((ws s ((slotW k w).take 2)).write ((5 * k + 1 + 1 : Nat) : Int) (wb w 16)).1) (L1 := [refP b (ws s ((slotW k w).take 3))]) rfl (by (conv => lhs; whnf); try rfl) (by have e : s.slot k w = _ := (wseq_go c42_0).trans ((wseq_go c42_1).trans (wseq_stop c42_2)); rw [e]; exact And.intro rfl rfl) (fun _ h => h.fin (by repeat ((conv => arg 1; whnf); (conv => arg 2; whnf); first | with_reducible exact .done | exact Fin.all _ | refine .cons (by repeat ((conv => arg 2; whnf); first | with_reducible exact .here | ((with_reducible refine Del.hereC ?_); rfl) | ((with_reducible refine Del.hereS ?_ ?_ ?_) <;> rfl) | exact .here | apply Del.there)) ?_ | refine .drop ?_))))
      · skip
        refine gc_skip ?_
        refine gc_region ?_
        refine g_ev (e_mv) ?_
        refine g_ev ((e_addw rfl rfl).to (v' := .int .i64 (3 : Int)) rfl) ?_
        refine g_ev (e_as) ?_
        refine g_nil ?_
        refine gl_round ?_
        refine gc_seq ?_
        refine gc_seq ?_
        refine gc_region ?_
        refine g_ev (e_mv) ?_
        refine g_ev (e_lt rfl rfl) ?_
        refine g_nil ?_
        refine gc_true ?_ (hc := by first | ((conv => lhs; whnf); done) | ((conv => lhs; whnf); rfl))
        refine gc_skip ?_
        refine gc_seq ?_
        refine gc_block ?_
        refine gc_seq ?_
        refine gc_draw (D := [refP b (ws s ((slotW k w).take 3))]) (fin := none) (plan := [(true, 0), (true, 1), (true, 2), (true, 3), (true, 4), (true, 5), (true, 6), (true, 7), (true, 8), (true, 9), (true, 10), (true, 11), (false, 12), (true, 13)]) rfl (by kernel_rfl) (by kernel_rfl) rfl (.cons (by repeat ((conv => arg 2; whnf); first | with_reducible exact .here | ((with_reducible refine Del.hereC ?_); rfl) | ((with_reducible refine Del.hereS ?_ ?_ ?_) <;> rfl) | exact .here | apply Del.there)) .nil) ?_
        refine gp_ev rfl (e_mv) ?_
        refine gp_ev rfl (e_mv) ?_
        refine gp_ev rfl ((e_mulw rfl rfl).to (v' := .int .i64 ((5 * k : Nat) : Int)) (congrArg _ (wrapN (by omega) (by omega)))) ?_
        refine gp_ev rfl (e_mv) ?_
        refine gp_ev rfl (e_mv) ?_
        refine gp_ev rfl (e_ia Try.underlying91 Try.sizeOf3 rfl rfl (q := 3) rfl (by decide)) ?_
        refine gp_ev rfl (e_ld Try.underlying3 rfl (by repeat ((conv => arg 2; whnf); first | with_reducible exact .here | ((with_reducible refine Del.hereC ?_); rfl) | ((with_reducible refine Del.hereS ?_ ?_ ?_) <;> rfl) | exact .here | apply Del.there)) rfl) ?_
        refine gp_ev rfl ((e_addw rfl rfl).to (v' := .int .i64 ((5 * k + 1 + 2 : Nat) : Int)) (congrArg _ (wrapN (by omega) (by omega)))) ?_
        refine gp_ev rfl (e_mv) ?_
        refine gp_ev rfl (e_mv) ?_
        refine gp_ev rfl (e_ia Try.underlying22 Try.sizeOf5 rfl rfl (q := 3) rfl (by decide)) ?_
        refine gp_ev rfl (e_ld Try.underlying5 rfl (by repeat ((conv => arg 2; whnf); first | with_reducible exact .here | ((with_reducible refine Del.hereC ?_); rfl) | ((with_reducible refine Del.hereS ?_ ?_ ?_) <;> rfl) | exact .here | apply Del.there)) rfl) ?_
        refine gp_eff rfl (s_call (rwrite_t b (ws s ((slotW k w).take 3)) (((5 * k + 1 + 2 : Nat) : Int)) (wb w 8)) (.cons (by repeat ((conv => arg 2; whnf); first | with_reducible exact .here | ((with_reducible refine Del.hereC ?_); rfl) | ((with_reducible refine Del.hereS ?_ ?_ ?_) <;> rfl) | exact .here | apply Del.there)) (.nil))) ?_
        rintro _ _ ⟨_, ⟨rfl, rfl⟩, rfl⟩
        refine gp_ev rfl (e_as) ?_
        refine gp_nil ?_
        refine gc_seq ?_
        refine gc_region ?_
        refine g_ev (e_mv) ?_
        refine g_ev (e_ne rfl rfl) ?_
        refine g_nil ?_
        first | refine gc_dec rfl (fun c42_3 => ?_) (fun c42_3 => ?_) | refine gc_ndec rfl (fun c42_3 => ?_) (fun c42_3 => ?_) | refine gc_cond rfl (fun c42_3 => ?_) (fun c42_3 => ?_)
        · skip
          refine gc_seq ?_
          refine gc_region ?_
          refine g_ev (e_mv) ?_
          refine g_ev (e_as) ?_
          refine g_nil ?_
          refine gc_ret ?_
          exact (ret1 (v := .int .i64 ((ws s ((slotW k w).take 3)).write ((5 * k + 1 + 2 : Nat) : Int) (wb w 8)).1) (L1 := [refP b (ws s ((slotW k w).take 4))]) rfl (by (conv => lhs; whnf); try rfl) (by have e : s.slot k w = _ := (wseq_go c42_0).trans ((wseq_go c42_1).trans ((wseq_go c42_2).trans (wseq_stop c42_3))); rw [e]; exact And.intro rfl rfl) (fun _ h => h.fin (by repeat ((conv => arg 1; whnf); (conv => arg 2; whnf); first | with_reducible exact .done | exact Fin.all _ | refine .cons (by repeat ((conv => arg 2; whnf); first | with_reducible exact .here | ((with_reducible refine Del.hereC ?_); rfl) | ((with_reducible refine Del.hereS ?_ ?_ ?_) <;> rfl) | exact .here | apply Del.there)) ?_ | refine .drop ?_))))
        · skip
          refine gc_skip ?_
          refine gc_region ?_
          refine g_ev (e_mv) ?_
          refine g_ev ((e_addw rfl rfl).to (v' := .int .i64 (4 : Int)) rfl) ?_
          refine g_ev (e_as) ?_
          refine g_nil ?_
          refine gl_round ?_
          refine gc_seq ?_
          refine gc_seq ?_
          refine gc_region ?_
          refine g_ev (e_mv) ?_
          refine g_ev (e_lt rfl rfl) ?_
          refine g_nil ?_
          refine gc_true ?_ (hc := by first | ((conv => lhs; whnf); done) | ((conv => lhs; whnf); rfl))
          refine gc_skip ?_
          refine gc_seq ?_
          refine gc_block ?_
          refine gc_seq ?_
          refine gc_draw (D := [refP b (ws s ((slotW k w).take 4))]) (fin := none) (plan := [(true, 0), (true, 1), (true, 2), (true, 3), (true, 4), (true, 5), (true, 6), (true, 7), (true, 8), (true, 9), (true, 10), (true, 11), (false, 12), (true, 13)]) rfl (by kernel_rfl) (by kernel_rfl) rfl (.cons (by repeat ((conv => arg 2; whnf); first | with_reducible exact .here | ((with_reducible refine Del.hereC ?_); rfl) | ((with_reducible refine Del.hereS ?_ ?_ ?_) <;> rfl) | exact .here | apply Del.there)) .nil) ?_
          refine gp_ev rfl (e_mv) ?_
          refine gp_ev rfl (e_mv) ?_
          refine gp_ev rfl ((e_mulw rfl rfl).to (v' := .int .i64 ((5 * k : Nat) : Int)) (congrArg _ (wrapN (by omega) (by omega)))) ?_
          refine gp_ev rfl (e_mv) ?_
          refine gp_ev rfl (e_mv) ?_
          refine gp_ev rfl (e_ia Try.underlying91 Try.sizeOf3 rfl rfl (q := 4) rfl (by decide)) ?_
          refine gp_ev rfl (e_ld Try.underlying3 rfl (by repeat ((conv => arg 2; whnf); first | with_reducible exact .here | ((with_reducible refine Del.hereC ?_); rfl) | ((with_reducible refine Del.hereS ?_ ?_ ?_) <;> rfl) | exact .here | apply Del.there)) rfl) ?_
          refine gp_ev rfl ((e_addw rfl rfl).to (v' := .int .i64 ((5 * k + 1 + 3 : Nat) : Int)) (congrArg _ (wrapN (by omega) (by omega)))) ?_
          refine gp_ev rfl (e_mv) ?_
          refine gp_ev rfl (e_mv) ?_
          refine gp_ev rfl (e_ia Try.underlying22 Try.sizeOf5 rfl rfl (q := 4) rfl (by decide)) ?_
          refine gp_ev rfl (e_ld Try.underlying5 rfl (by repeat ((conv => arg 2; whnf); first | with_reducible exact .here | ((with_reducible refine Del.hereC ?_); rfl) | ((with_reducible refine Del.hereS ?_ ?_ ?_) <;> rfl) | exact .here | apply Del.there)) rfl) ?_
          refine gp_eff rfl (s_call (rwrite_t b (ws s ((slotW k w).take 4)) (((5 * k + 1 + 3 : Nat) : Int)) (wb w 0)) (.cons (by repeat ((conv => arg 2; whnf); first | with_reducible exact .here | ((with_reducible refine Del.hereC ?_); rfl) | ((with_reducible refine Del.hereS ?_ ?_ ?_) <;> rfl) | exact .here | apply Del.there)) (.nil))) ?_
          rintro _ _ ⟨_, ⟨rfl, rfl⟩, rfl⟩
          refine gp_ev rfl (e_as) ?_
          refine gp_nil ?_
          refine gc_seq ?_
          refine gc_region ?_
          refine g_ev (e_mv) ?_
          refine g_ev (e_ne rfl rfl) ?_
          refine g_nil ?_
          first | refine gc_dec rfl (fun c42_4 => ?_) (fun c42_4 => ?_) | refine gc_ndec rfl (fun c42_4 => ?_) (fun c42_4 => ?_) | refine gc_cond rfl (fun c42_4 => ?_) (fun c42_4 => ?_)
          · skip
            refine gc_seq ?_
            refine gc_region ?_
            refine g_ev (e_mv) ?_
            refine g_ev (e_as) ?_
            refine g_nil ?_
            refine gc_ret ?_
            exact (ret1 (v := .int .i64 ((ws s ((slotW k w).take 4)).write ((5 * k + 1 + 3 : Nat) : Int) (wb w 0)).1) (L1 := [refP b (ws s ((slotW k w).take 5))]) rfl (by (conv => lhs; whnf); try rfl) (by have e : s.slot k w = _ := (wseq_go c42_0).trans ((wseq_go c42_1).trans ((wseq_go c42_2).trans ((wseq_go c42_3).trans (wseq_stop c42_4)))); rw [e]; exact And.intro rfl rfl) (fun _ h => h.fin (by repeat ((conv => arg 1; whnf); (conv => arg 2; whnf); first | with_reducible exact .done | exact Fin.all _ | refine .cons (by repeat ((conv => arg 2; whnf); first | with_reducible exact .here | ((with_reducible refine Del.hereC ?_); rfl) | ((with_reducible refine Del.hereS ?_ ?_ ?_) <;> rfl) | exact .here | apply Del.there)) ?_ | refine .drop ?_))))
          · skip
            refine gc_skip ?_
            refine gc_region ?_
            refine g_ev (e_mv) ?_
            refine g_ev ((e_addw rfl rfl).to (v' := .int .i64 (5 : Int)) rfl) ?_
            refine g_ev (e_as) ?_
            refine g_nil ?_
            refine gl_round ?_
            refine gc_seq ?_
            refine gc_seq ?_
            refine gc_region ?_
            refine g_ev (e_mv) ?_
            refine g_ev (e_lt rfl rfl) ?_
            refine g_nil ?_
            refine gc_true ?_ (hc := by first | ((conv => lhs; whnf); done) | ((conv => lhs; whnf); rfl))
            refine gc_skip ?_
            refine gc_seq ?_
            refine gc_block ?_
            refine gc_seq ?_
            refine gc_draw (D := [refP b (ws s ((slotW k w).take 5))]) (fin := none) (plan := [(true, 0), (true, 1), (true, 2), (true, 3), (true, 4), (true, 5), (true, 6), (true, 7), (true, 8), (true, 9), (true, 10), (true, 11), (false, 12), (true, 13)]) rfl (by kernel_rfl) (by kernel_rfl) rfl (.cons (by repeat ((conv => arg 2; whnf); first | with_reducible exact .here | ((with_reducible refine Del.hereC ?_); rfl) | ((with_reducible refine Del.hereS ?_ ?_ ?_) <;> rfl) | exact .here | apply Del.there)) .nil) ?_
            refine gp_ev rfl (e_mv) ?_
            refine gp_ev rfl (e_mv) ?_
            refine gp_ev rfl ((e_mulw rfl rfl).to (v' := .int .i64 ((5 * k : Nat) : Int)) (congrArg _ (wrapN (by omega) (by omega)))) ?_
            refine gp_ev rfl (e_mv) ?_
            refine gp_ev rfl (e_mv) ?_
            refine gp_ev rfl (e_ia Try.underlying91 Try.sizeOf3 rfl rfl (q := 5) rfl (by decide)) ?_
            refine gp_ev rfl (e_ld Try.underlying3 rfl (by repeat ((conv => arg 2; whnf); first | with_reducible exact .here | ((with_reducible refine Del.hereC ?_); rfl) | ((with_reducible refine Del.hereS ?_ ?_ ?_) <;> rfl) | exact .here | apply Del.there)) rfl) ?_
            refine gp_ev rfl ((e_addw rfl rfl).to (v' := .int .i64 ((5 * k : Nat) : Int)) (congrArg _ (wrapN (by omega) (by omega)))) ?_
            refine gp_ev rfl (e_mv) ?_
            refine gp_ev rfl (e_mv) ?_
            refine gp_ev rfl (e_ia Try.underlying22 Try.sizeOf5 rfl rfl (q := 5) rfl (by decide)) ?_
            refine gp_ev rfl (e_ld Try.underlying5 rfl (by repeat ((conv => arg 2; whnf); first | with_reducible exact .here | ((with_reducible refine Del.hereC ?_); rfl) | ((with_reducible refine Del.hereS ?_ ?_ ?_) <;> rfl) | exact .here | apply Del.there)) rfl) ?_
            refine gp_eff rfl (s_call (rwrite_t b (ws s ((slotW k w).take 5)) (((5 * k : Nat) : Int)) (165)) (.cons (by repeat ((conv => arg 2; whnf); first | with_reducible exact .here | ((with_reducible refine Del.hereC ?_); rfl) | ((with_reducible refine Del.hereS ?_ ?_ ?_) <;> rfl) | exact .here | apply Del.there)) (.nil))) ?_
            rintro _ _ ⟨_, ⟨rfl, rfl⟩, rfl⟩
            refine gp_ev rfl (e_as) ?_
            refine gp_nil ?_
            refine gc_seq ?_
            refine gc_region ?_
            refine g_ev (e_mv) ?_
            refine g_ev (e_ne rfl rfl) ?_
            refine g_nil ?_
            first | refine gc_dec rfl (fun c42_5 => ?_) (fun c42_5 => ?_) | refine gc_ndec rfl (fun c42_5 => ?_) (fun c42_5 => ?_) | refine gc_cond rfl (fun c42_5 => ?_) (fun c42_5 => ?_)
            · skip
              refine gc_seq ?_
              refine gc_region ?_
              refine g_ev (e_mv) ?_
              refine g_ev (e_as) ?_
              refine g_nil ?_
              refine gc_ret ?_
              exact (ret1 (v := .int .i64 ((ws s ((slotW k w).take 5)).write ((5 * k : Nat) : Int) 165).1) (L1 := [refP b (ws s ((slotW k w).take 6))]) rfl (by (conv => lhs; whnf); try rfl) (by have e : s.slot k w = _ := (wseq_go c42_0).trans ((wseq_go c42_1).trans ((wseq_go c42_2).trans ((wseq_go c42_3).trans ((wseq_go c42_4).trans (wseq_stop c42_5))))); rw [e]; exact And.intro rfl rfl) (fun _ h => h.fin (by repeat ((conv => arg 1; whnf); (conv => arg 2; whnf); first | with_reducible exact .done | exact Fin.all _ | refine .cons (by repeat ((conv => arg 2; whnf); first | with_reducible exact .here | ((with_reducible refine Del.hereC ?_); rfl) | ((with_reducible refine Del.hereS ?_ ?_ ?_) <;> rfl) | exact .here | apply Del.there)) ?_ | refine .drop ?_))))
            · skip
              refine gc_skip ?_
              refine gc_region ?_
              refine g_ev (e_mv) ?_
              refine g_ev ((e_addw rfl rfl).to (v' := .int .i64 (6 : Int)) rfl) ?_
              refine g_ev (e_as) ?_
              refine g_nil ?_
              refine gl_round ?_
              refine gc_seq ?_
              refine gc_seq ?_
              refine gc_region ?_
              refine g_ev (e_mv) ?_
              refine g_ev (e_lt rfl rfl) ?_
              refine g_nil ?_
              refine gc_false ?_ (hc := by first | ((conv => lhs; whnf); done) | ((conv => lhs; whnf); rfl))
              refine gc_exit ?_
              refine gc_seq ?_
              refine gc_region ?_
              refine g_ev (e_as) ?_
              refine g_nil ?_
              refine gc_ret ?_
              exact (ret1 (v := .int .i64 0) (L1 := [refP b (ws s (slotW k w))]) rfl (by (conv => lhs; whnf); try rfl) (by have e : s.slot k w = _ := (wseq_go c42_0).trans ((wseq_go c42_1).trans ((wseq_go c42_2).trans ((wseq_go c42_3).trans ((wseq_go c42_4).trans (wseq_go c42_5))))); rw [e]; exact And.intro rfl rfl) (fun _ h => h.fin (by repeat ((conv => arg 1; whnf); (conv => arg 2; whnf); first | with_reducible exact .done | exact Fin.all _ | refine .cons (by repeat ((conv => arg 2; whnf); first | with_reducible exact .here | ((with_reducible refine Del.hereC ?_); rfl) | ((with_reducible refine Del.hereS ?_ ?_ ?_) <;> rfl) | exact .here | apply Del.there)) ?_ | refine .drop ?_))))


theorem holds0 (b : Nat) (s : MemS) (hk : 10 ≤ s.bs.length) (hm : s.bs.length ≤ 4096) : Tri Try.prog 32 #[.pointer (some ⟨b, 0, none⟩), .int .i64 0] [refP b s] (isR (.bool (decide (((s.by 0 : Nat) : Int) = 165))) [refP b s]) := holds_t b s 0 (by omega) hm
theorem holds1 (b : Nat) (s : MemS) (hk : 10 ≤ s.bs.length) (hm : s.bs.length ≤ 4096) : Tri Try.prog 32 #[.pointer (some ⟨b, 0, none⟩), .int .i64 1] [refP b s] (isR (.bool (decide (((s.by 5 : Nat) : Int) = 165))) [refP b s]) := holds_t b s 1 (by omega) hm
theorem rword0 (b : Nat) (s : MemS) (hk : 10 ≤ s.bs.length) (hm : s.bs.length ≤ 4096) : Tri Try.prog 34 #[.pointer (some ⟨b, 0, none⟩), .int .i64 0] [refP b s] (isR (.int .u32 ((s.word 0 : Nat) : Int)) [refP b s]) := rword_t b s 0 (by omega) hm
theorem rword1 (b : Nat) (s : MemS) (hk : 10 ≤ s.bs.length) (hm : s.bs.length ≤ 4096) : Tri Try.prog 34 #[.pointer (some ⟨b, 0, none⟩), .int .i64 1] [refP b s] (isR (.int .u32 ((s.word 1 : Nat) : Int)) [refP b s]) := rword_t b s 1 (by omega) hm

theorem rvalue_t (b : Nat) (s : MemS) (hl : 10 ≤ s.bs.length) (hm : s.bs.length ≤ 4096) : Tri Try.prog 31 #[.pointer (some ⟨b, 0, none⟩)] [refP b s] (isR (.int .u32 ((s.val : Nat) : Int)) [refP b s]) := by
  refine tri_of Try.call31 Try.func31 rfl fun B F => ?_
  refine gc_seq ?_
  refine gc_region ?_
  refine g_ev (e_as) ?_
  refine g_nil ?_
  refine gc_seq ?_
  refine gc_region ?_
  refine g_ev (e_as) ?_
  refine g_nil ?_
  refine gc_seq ?_
  refine gc_seq ?_
  refine gc_region ?_
  refine g_ev (e_as) ?_
  refine g_nil ?_
  refine gc_block ?_
  refine gl_start ?_
  refine gl_round ?_
  refine gc_seq ?_
  refine gc_seq ?_
  refine gc_region ?_
  refine g_ev (e_mv) ?_
  refine g_ev (e_lt rfl rfl) ?_
  refine g_nil ?_
  refine gc_true ?_ (hc := by first | ((conv => lhs; whnf); done) | ((conv => lhs; whnf); rfl))
  refine gc_skip ?_
  refine gc_seq ?_
  refine gc_block ?_
  refine gc_seq ?_
  refine gc_region ?_
  refine g_ev (e_mv) ?_
  refine g_ev (e_mv) ?_
  refine g_eff (s_call (holds0 b s hl hm) (.cons (by repeat ((conv => arg 2; whnf); first | with_reducible exact .here | ((with_reducible refine Del.hereC ?_); rfl) | ((with_reducible refine Del.hereS ?_ ?_ ?_) <;> rfl) | exact .here | apply Del.there)) (.nil))) ?_
  rintro _ _ ⟨_, ⟨rfl, rfl⟩, rfl⟩
  refine g_ev (e_mv) ?_
  first | refine g_dec 12 rfl (fun c12_0 => ?_) (fun c12_0 => ?_) | refine g_ndec 12 rfl (fun c12_0 => ?_) (fun c12_0 => ?_) | refine g_bool 12 rfl (fun c12_0 => ?_) (fun c12_0 => ?_)
  · skip
    refine g_ev (e_mv) ?_
    refine g_ev (e_mv) ?_
    refine g_eff (s_call (rword0 b s hl hm) (.cons (by repeat ((conv => arg 2; whnf); first | with_reducible exact .here | ((with_reducible refine Del.hereC ?_); rfl) | ((with_reducible refine Del.hereS ?_ ?_ ?_) <;> rfl) | exact .here | apply Del.there)) (.nil))) ?_
    rintro _ _ ⟨_, ⟨rfl, rfl⟩, rfl⟩
    refine g_ev (e_mv) ?_
    refine g_ev (e_gt rfl rfl) ?_
    refine g_ev (e_pk rfl) ?_
    refine g_nil ?_
    first | refine gc_dec rfl (fun c18_0 => ?_) (fun c18_0 => ?_) | refine gc_ndec rfl (fun c18_0 => ?_) (fun c18_0 => ?_) | refine gc_cond rfl (fun c18_0 => ?_) (fun c18_0 => ?_)
    · skip
      refine gc_region ?_
      refine g_ev (e_mv) ?_
      refine g_ev (e_mv) ?_
      refine g_eff (s_call (rword0 b s hl hm) (.cons (by repeat ((conv => arg 2; whnf); first | with_reducible exact .here | ((with_reducible refine Del.hereC ?_); rfl) | ((with_reducible refine Del.hereS ?_ ?_ ?_) <;> rfl) | exact .here | apply Del.there)) (.nil))) ?_
      rintro _ _ ⟨_, ⟨rfl, rfl⟩, rfl⟩
      refine g_ev (e_as) ?_
      refine g_nil ?_
      refine gc_region ?_
      refine g_ev (e_mv) ?_
      refine g_ev ((e_addw rfl rfl).to (v' := .int .i64 (1 : Int)) rfl) ?_
      refine g_ev (e_as) ?_
      refine g_nil ?_
      refine gl_round ?_
      refine gc_seq ?_
      refine gc_seq ?_
      refine gc_region ?_
      refine g_ev (e_mv) ?_
      refine g_ev (e_lt rfl rfl) ?_
      refine g_nil ?_
      refine gc_true ?_ (hc := by first | ((conv => lhs; whnf); done) | ((conv => lhs; whnf); rfl))
      refine gc_skip ?_
      refine gc_seq ?_
      refine gc_block ?_
      refine gc_seq ?_
      refine gc_region ?_
      refine g_ev (e_mv) ?_
      refine g_ev (e_mv) ?_
      refine g_eff (s_call (holds1 b s hl hm) (.cons (by repeat ((conv => arg 2; whnf); first | with_reducible exact .here | ((with_reducible refine Del.hereC ?_); rfl) | ((with_reducible refine Del.hereS ?_ ?_ ?_) <;> rfl) | exact .here | apply Del.there)) (.nil))) ?_
      rintro _ _ ⟨_, ⟨rfl, rfl⟩, rfl⟩
      refine g_ev (e_mv) ?_
      first | refine g_dec 12 rfl (fun c12_1 => ?_) (fun c12_1 => ?_) | refine g_ndec 12 rfl (fun c12_1 => ?_) (fun c12_1 => ?_) | refine g_bool 12 rfl (fun c12_1 => ?_) (fun c12_1 => ?_)
      · skip
        refine g_ev (e_mv) ?_
        refine g_ev (e_mv) ?_
        refine g_eff (s_call (rword1 b s hl hm) (.cons (by repeat ((conv => arg 2; whnf); first | with_reducible exact .here | ((with_reducible refine Del.hereC ?_); rfl) | ((with_reducible refine Del.hereS ?_ ?_ ?_) <;> rfl) | exact .here | apply Del.there)) (.nil))) ?_
        rintro _ _ ⟨_, ⟨rfl, rfl⟩, rfl⟩
        refine g_ev (e_mv) ?_
        refine g_ev (e_gt rfl rfl) ?_
        refine g_ev (e_pk rfl) ?_
        refine g_nil ?_
        first | refine gc_dec rfl (fun c18_1 => ?_) (fun c18_1 => ?_) | refine gc_ndec rfl (fun c18_1 => ?_) (fun c18_1 => ?_) | refine gc_cond rfl (fun c18_1 => ?_) (fun c18_1 => ?_)
        · skip
          refine gc_region ?_
          refine g_ev (e_mv) ?_
          refine g_ev (e_mv) ?_
          refine g_eff (s_call (rword1 b s hl hm) (.cons (by repeat ((conv => arg 2; whnf); first | with_reducible exact .here | ((with_reducible refine Del.hereC ?_); rfl) | ((with_reducible refine Del.hereS ?_ ?_ ?_) <;> rfl) | exact .here | apply Del.there)) (.nil))) ?_
          rintro _ _ ⟨_, ⟨rfl, rfl⟩, rfl⟩
          refine g_ev (e_as) ?_
          refine g_nil ?_
          refine gc_region ?_
          refine g_ev (e_mv) ?_
          refine g_ev ((e_addw rfl rfl).to (v' := .int .i64 (2 : Int)) rfl) ?_
          refine g_ev (e_as) ?_
          refine g_nil ?_
          refine gl_round ?_
          refine gc_seq ?_
          refine gc_seq ?_
          refine gc_region ?_
          refine g_ev (e_mv) ?_
          refine g_ev (e_lt rfl rfl) ?_
          refine g_nil ?_
          refine gc_false ?_ (hc := by first | ((conv => lhs; whnf); done) | ((conv => lhs; whnf); rfl))
          refine gc_exit ?_
          refine gc_seq ?_
          refine gc_region ?_
          refine g_ev (e_mv) ?_
          refine g_ev (e_as) ?_
          refine g_nil ?_
          refine gc_ret ?_
          exact (ret1 (v := .int .u32 ((s.val : Nat) : Int)) (L1 := [refP b s]) rfl (by (conv => lhs; whnf); refine congrArg (Value.int .u32) ?_; unfold MemS.val; (repeat' split) <;> omega) ⟨rfl, rfl⟩ (fun _ h => h.fin (by repeat ((conv => arg 1; whnf); (conv => arg 2; whnf); first | with_reducible exact .done | exact Fin.all _ | refine .cons (by repeat ((conv => arg 2; whnf); first | with_reducible exact .here | ((with_reducible refine Del.hereC ?_); rfl) | ((with_reducible refine Del.hereS ?_ ?_ ?_) <;> rfl) | exact .here | apply Del.there)) ?_ | refine .drop ?_))))
        · skip
          refine gc_skip ?_
          refine gc_region ?_
          refine g_ev (e_mv) ?_
          refine g_ev ((e_addw rfl rfl).to (v' := .int .i64 (2 : Int)) rfl) ?_
          refine g_ev (e_as) ?_
          refine g_nil ?_
          refine gl_round ?_
          refine gc_seq ?_
          refine gc_seq ?_
          refine gc_region ?_
          refine g_ev (e_mv) ?_
          refine g_ev (e_lt rfl rfl) ?_
          refine g_nil ?_
          refine gc_false ?_ (hc := by first | ((conv => lhs; whnf); done) | ((conv => lhs; whnf); rfl))
          refine gc_exit ?_
          refine gc_seq ?_
          refine gc_region ?_
          refine g_ev (e_mv) ?_
          refine g_ev (e_as) ?_
          refine g_nil ?_
          refine gc_ret ?_
          exact (ret1 (v := .int .u32 ((s.val : Nat) : Int)) (L1 := [refP b s]) rfl (by (conv => lhs; whnf); refine congrArg (Value.int .u32) ?_; unfold MemS.val; (repeat' split) <;> omega) ⟨rfl, rfl⟩ (fun _ h => h.fin (by repeat ((conv => arg 1; whnf); (conv => arg 2; whnf); first | with_reducible exact .done | exact Fin.all _ | refine .cons (by repeat ((conv => arg 2; whnf); first | with_reducible exact .here | ((with_reducible refine Del.hereC ?_); rfl) | ((with_reducible refine Del.hereS ?_ ?_ ?_) <;> rfl) | exact .here | apply Del.there)) ?_ | refine .drop ?_))))
      · skip
        refine g_not ?_
        refine g_not ?_
        refine g_not ?_
        refine g_not ?_
        refine g_not ?_
        refine g_ev (e_pk rfl) ?_
        refine g_nil ?_
        refine gc_false ?_
        refine gc_skip ?_
        refine gc_region ?_
        refine g_ev (e_mv) ?_
        refine g_ev ((e_addw rfl rfl).to (v' := .int .i64 (2 : Int)) rfl) ?_
        refine g_ev (e_as) ?_
        refine g_nil ?_
        refine gl_round ?_
        refine gc_seq ?_
        refine gc_seq ?_
        refine gc_region ?_
        refine g_ev (e_mv) ?_
        refine g_ev (e_lt rfl rfl) ?_
        refine g_nil ?_
        refine gc_false ?_ (hc := by first | ((conv => lhs; whnf); done) | ((conv => lhs; whnf); rfl))
        refine gc_exit ?_
        refine gc_seq ?_
        refine gc_region ?_
        refine g_ev (e_mv) ?_
        refine g_ev (e_as) ?_
        refine g_nil ?_
        refine gc_ret ?_
        exact (ret1 (v := .int .u32 ((s.val : Nat) : Int)) (L1 := [refP b s]) rfl (by (conv => lhs; whnf); refine congrArg (Value.int .u32) ?_; unfold MemS.val; (repeat' split) <;> omega) ⟨rfl, rfl⟩ (fun _ h => h.fin (by repeat ((conv => arg 1; whnf); (conv => arg 2; whnf); first | with_reducible exact .done | exact Fin.all _ | refine .cons (by repeat ((conv => arg 2; whnf); first | with_reducible exact .here | ((with_reducible refine Del.hereC ?_); rfl) | ((with_reducible refine Del.hereS ?_ ?_ ?_) <;> rfl) | exact .here | apply Del.there)) ?_ | refine .drop ?_))))
    · skip
      refine gc_skip ?_
      refine gc_region ?_
      refine g_ev (e_mv) ?_
      refine g_ev ((e_addw rfl rfl).to (v' := .int .i64 (1 : Int)) rfl) ?_
      refine g_ev (e_as) ?_
      refine g_nil ?_
      refine gl_round ?_
      refine gc_seq ?_
      refine gc_seq ?_
      refine gc_region ?_
      refine g_ev (e_mv) ?_
      refine g_ev (e_lt rfl rfl) ?_
      refine g_nil ?_
      refine gc_true ?_ (hc := by first | ((conv => lhs; whnf); done) | ((conv => lhs; whnf); rfl))
      refine gc_skip ?_
      refine gc_seq ?_
      refine gc_block ?_
      refine gc_seq ?_
      refine gc_region ?_
      refine g_ev (e_mv) ?_
      refine g_ev (e_mv) ?_
      refine g_eff (s_call (holds1 b s hl hm) (.cons (by repeat ((conv => arg 2; whnf); first | with_reducible exact .here | ((with_reducible refine Del.hereC ?_); rfl) | ((with_reducible refine Del.hereS ?_ ?_ ?_) <;> rfl) | exact .here | apply Del.there)) (.nil))) ?_
      rintro _ _ ⟨_, ⟨rfl, rfl⟩, rfl⟩
      refine g_ev (e_mv) ?_
      first | refine g_dec 12 rfl (fun c12_1 => ?_) (fun c12_1 => ?_) | refine g_ndec 12 rfl (fun c12_1 => ?_) (fun c12_1 => ?_) | refine g_bool 12 rfl (fun c12_1 => ?_) (fun c12_1 => ?_)
      · skip
        refine g_ev (e_mv) ?_
        refine g_ev (e_mv) ?_
        refine g_eff (s_call (rword1 b s hl hm) (.cons (by repeat ((conv => arg 2; whnf); first | with_reducible exact .here | ((with_reducible refine Del.hereC ?_); rfl) | ((with_reducible refine Del.hereS ?_ ?_ ?_) <;> rfl) | exact .here | apply Del.there)) (.nil))) ?_
        rintro _ _ ⟨_, ⟨rfl, rfl⟩, rfl⟩
        refine g_ev (e_mv) ?_
        refine g_ev (e_gt rfl rfl) ?_
        refine g_ev (e_pk rfl) ?_
        refine g_nil ?_
        first | refine gc_dec rfl (fun c18_1 => ?_) (fun c18_1 => ?_) | refine gc_ndec rfl (fun c18_1 => ?_) (fun c18_1 => ?_) | refine gc_cond rfl (fun c18_1 => ?_) (fun c18_1 => ?_)
        · skip
          refine gc_region ?_
          refine g_ev (e_mv) ?_
          refine g_ev (e_mv) ?_
          refine g_eff (s_call (rword1 b s hl hm) (.cons (by repeat ((conv => arg 2; whnf); first | with_reducible exact .here | ((with_reducible refine Del.hereC ?_); rfl) | ((with_reducible refine Del.hereS ?_ ?_ ?_) <;> rfl) | exact .here | apply Del.there)) (.nil))) ?_
          rintro _ _ ⟨_, ⟨rfl, rfl⟩, rfl⟩
          refine g_ev (e_as) ?_
          refine g_nil ?_
          refine gc_region ?_
          refine g_ev (e_mv) ?_
          refine g_ev ((e_addw rfl rfl).to (v' := .int .i64 (2 : Int)) rfl) ?_
          refine g_ev (e_as) ?_
          refine g_nil ?_
          refine gl_round ?_
          refine gc_seq ?_
          refine gc_seq ?_
          refine gc_region ?_
          refine g_ev (e_mv) ?_
          refine g_ev (e_lt rfl rfl) ?_
          refine g_nil ?_
          refine gc_false ?_ (hc := by first | ((conv => lhs; whnf); done) | ((conv => lhs; whnf); rfl))
          refine gc_exit ?_
          refine gc_seq ?_
          refine gc_region ?_
          refine g_ev (e_mv) ?_
          refine g_ev (e_as) ?_
          refine g_nil ?_
          refine gc_ret ?_
          exact (ret1 (v := .int .u32 ((s.val : Nat) : Int)) (L1 := [refP b s]) rfl (by (conv => lhs; whnf); refine congrArg (Value.int .u32) ?_; unfold MemS.val; (repeat' split) <;> omega) ⟨rfl, rfl⟩ (fun _ h => h.fin (by repeat ((conv => arg 1; whnf); (conv => arg 2; whnf); first | with_reducible exact .done | exact Fin.all _ | refine .cons (by repeat ((conv => arg 2; whnf); first | with_reducible exact .here | ((with_reducible refine Del.hereC ?_); rfl) | ((with_reducible refine Del.hereS ?_ ?_ ?_) <;> rfl) | exact .here | apply Del.there)) ?_ | refine .drop ?_))))
        · skip
          refine gc_skip ?_
          refine gc_region ?_
          refine g_ev (e_mv) ?_
          refine g_ev ((e_addw rfl rfl).to (v' := .int .i64 (2 : Int)) rfl) ?_
          refine g_ev (e_as) ?_
          refine g_nil ?_
          refine gl_round ?_
          refine gc_seq ?_
          refine gc_seq ?_
          refine gc_region ?_
          refine g_ev (e_mv) ?_
          refine g_ev (e_lt rfl rfl) ?_
          refine g_nil ?_
          refine gc_false ?_ (hc := by first | ((conv => lhs; whnf); done) | ((conv => lhs; whnf); rfl))
          refine gc_exit ?_
          refine gc_seq ?_
          refine gc_region ?_
          refine g_ev (e_mv) ?_
          refine g_ev (e_as) ?_
          refine g_nil ?_
          refine gc_ret ?_
          exact (ret1 (v := .int .u32 ((s.val : Nat) : Int)) (L1 := [refP b s]) rfl (by (conv => lhs; whnf); refine congrArg (Value.int .u32) ?_; unfold MemS.val; (repeat' split) <;> omega) ⟨rfl, rfl⟩ (fun _ h => h.fin (by repeat ((conv => arg 1; whnf); (conv => arg 2; whnf); first | with_reducible exact .done | exact Fin.all _ | refine .cons (by repeat ((conv => arg 2; whnf); first | with_reducible exact .here | ((with_reducible refine Del.hereC ?_); rfl) | ((with_reducible refine Del.hereS ?_ ?_ ?_) <;> rfl) | exact .here | apply Del.there)) ?_ | refine .drop ?_))))
      · skip
        refine g_not ?_
        refine g_not ?_
        refine g_not ?_
        refine g_not ?_
        refine g_not ?_
        refine g_ev (e_pk rfl) ?_
        refine g_nil ?_
        refine gc_false ?_
        refine gc_skip ?_
        refine gc_region ?_
        refine g_ev (e_mv) ?_
        refine g_ev ((e_addw rfl rfl).to (v' := .int .i64 (2 : Int)) rfl) ?_
        refine g_ev (e_as) ?_
        refine g_nil ?_
        refine gl_round ?_
        refine gc_seq ?_
        refine gc_seq ?_
        refine gc_region ?_
        refine g_ev (e_mv) ?_
        refine g_ev (e_lt rfl rfl) ?_
        refine g_nil ?_
        refine gc_false ?_ (hc := by first | ((conv => lhs; whnf); done) | ((conv => lhs; whnf); rfl))
        refine gc_exit ?_
        refine gc_seq ?_
        refine gc_region ?_
        refine g_ev (e_mv) ?_
        refine g_ev (e_as) ?_
        refine g_nil ?_
        refine gc_ret ?_
        exact (ret1 (v := .int .u32 ((s.val : Nat) : Int)) (L1 := [refP b s]) rfl (by (conv => lhs; whnf); refine congrArg (Value.int .u32) ?_; unfold MemS.val; (repeat' split) <;> omega) ⟨rfl, rfl⟩ (fun _ h => h.fin (by repeat ((conv => arg 1; whnf); (conv => arg 2; whnf); first | with_reducible exact .done | exact Fin.all _ | refine .cons (by repeat ((conv => arg 2; whnf); first | with_reducible exact .here | ((with_reducible refine Del.hereC ?_); rfl) | ((with_reducible refine Del.hereS ?_ ?_ ?_) <;> rfl) | exact .here | apply Del.there)) ?_ | refine .drop ?_))))
  · skip
    refine g_not ?_
    refine g_not ?_
    refine g_not ?_
    refine g_not ?_
    refine g_not ?_
    refine g_ev (e_pk rfl) ?_
    refine g_nil ?_
    refine gc_false ?_
    refine gc_skip ?_
    refine gc_region ?_
    refine g_ev (e_mv) ?_
    refine g_ev ((e_addw rfl rfl).to (v' := .int .i64 (1 : Int)) rfl) ?_
    refine g_ev (e_as) ?_
    refine g_nil ?_
    refine gl_round ?_
    refine gc_seq ?_
    refine gc_seq ?_
    refine gc_region ?_
    refine g_ev (e_mv) ?_
    refine g_ev (e_lt rfl rfl) ?_
    refine g_nil ?_
    refine gc_true ?_ (hc := by first | ((conv => lhs; whnf); done) | ((conv => lhs; whnf); rfl))
    refine gc_skip ?_
    refine gc_seq ?_
    refine gc_block ?_
    refine gc_seq ?_
    refine gc_region ?_
    refine g_ev (e_mv) ?_
    refine g_ev (e_mv) ?_
    refine g_eff (s_call (holds1 b s hl hm) (.cons (by repeat ((conv => arg 2; whnf); first | with_reducible exact .here | ((with_reducible refine Del.hereC ?_); rfl) | ((with_reducible refine Del.hereS ?_ ?_ ?_) <;> rfl) | exact .here | apply Del.there)) (.nil))) ?_
    rintro _ _ ⟨_, ⟨rfl, rfl⟩, rfl⟩
    refine g_ev (e_mv) ?_
    first | refine g_dec 12 rfl (fun c12_1 => ?_) (fun c12_1 => ?_) | refine g_ndec 12 rfl (fun c12_1 => ?_) (fun c12_1 => ?_) | refine g_bool 12 rfl (fun c12_1 => ?_) (fun c12_1 => ?_)
    · skip
      refine g_ev (e_mv) ?_
      refine g_ev (e_mv) ?_
      refine g_eff (s_call (rword1 b s hl hm) (.cons (by repeat ((conv => arg 2; whnf); first | with_reducible exact .here | ((with_reducible refine Del.hereC ?_); rfl) | ((with_reducible refine Del.hereS ?_ ?_ ?_) <;> rfl) | exact .here | apply Del.there)) (.nil))) ?_
      rintro _ _ ⟨_, ⟨rfl, rfl⟩, rfl⟩
      refine g_ev (e_mv) ?_
      refine g_ev (e_gt rfl rfl) ?_
      refine g_ev (e_pk rfl) ?_
      refine g_nil ?_
      first | refine gc_dec rfl (fun c18_1 => ?_) (fun c18_1 => ?_) | refine gc_ndec rfl (fun c18_1 => ?_) (fun c18_1 => ?_) | refine gc_cond rfl (fun c18_1 => ?_) (fun c18_1 => ?_)
      · skip
        refine gc_region ?_
        refine g_ev (e_mv) ?_
        refine g_ev (e_mv) ?_
        refine g_eff (s_call (rword1 b s hl hm) (.cons (by repeat ((conv => arg 2; whnf); first | with_reducible exact .here | ((with_reducible refine Del.hereC ?_); rfl) | ((with_reducible refine Del.hereS ?_ ?_ ?_) <;> rfl) | exact .here | apply Del.there)) (.nil))) ?_
        rintro _ _ ⟨_, ⟨rfl, rfl⟩, rfl⟩
        refine g_ev (e_as) ?_
        refine g_nil ?_
        refine gc_region ?_
        refine g_ev (e_mv) ?_
        refine g_ev ((e_addw rfl rfl).to (v' := .int .i64 (2 : Int)) rfl) ?_
        refine g_ev (e_as) ?_
        refine g_nil ?_
        refine gl_round ?_
        refine gc_seq ?_
        refine gc_seq ?_
        refine gc_region ?_
        refine g_ev (e_mv) ?_
        refine g_ev (e_lt rfl rfl) ?_
        refine g_nil ?_
        refine gc_false ?_ (hc := by first | ((conv => lhs; whnf); done) | ((conv => lhs; whnf); rfl))
        refine gc_exit ?_
        refine gc_seq ?_
        refine gc_region ?_
        refine g_ev (e_mv) ?_
        refine g_ev (e_as) ?_
        refine g_nil ?_
        refine gc_ret ?_
        exact (ret1 (v := .int .u32 ((s.val : Nat) : Int)) (L1 := [refP b s]) rfl (by (conv => lhs; whnf); refine congrArg (Value.int .u32) ?_; unfold MemS.val; (repeat' split) <;> omega) ⟨rfl, rfl⟩ (fun _ h => h.fin (by repeat ((conv => arg 1; whnf); (conv => arg 2; whnf); first | with_reducible exact .done | exact Fin.all _ | refine .cons (by repeat ((conv => arg 2; whnf); first | with_reducible exact .here | ((with_reducible refine Del.hereC ?_); rfl) | ((with_reducible refine Del.hereS ?_ ?_ ?_) <;> rfl) | exact .here | apply Del.there)) ?_ | refine .drop ?_))))
      · skip
        refine gc_skip ?_
        refine gc_region ?_
        refine g_ev (e_mv) ?_
        refine g_ev ((e_addw rfl rfl).to (v' := .int .i64 (2 : Int)) rfl) ?_
        refine g_ev (e_as) ?_
        refine g_nil ?_
        refine gl_round ?_
        refine gc_seq ?_
        refine gc_seq ?_
        refine gc_region ?_
        refine g_ev (e_mv) ?_
        refine g_ev (e_lt rfl rfl) ?_
        refine g_nil ?_
        refine gc_false ?_ (hc := by first | ((conv => lhs; whnf); done) | ((conv => lhs; whnf); rfl))
        refine gc_exit ?_
        refine gc_seq ?_
        refine gc_region ?_
        refine g_ev (e_mv) ?_
        refine g_ev (e_as) ?_
        refine g_nil ?_
        refine gc_ret ?_
        exact (ret1 (v := .int .u32 ((s.val : Nat) : Int)) (L1 := [refP b s]) rfl (by (conv => lhs; whnf); refine congrArg (Value.int .u32) ?_; unfold MemS.val; (repeat' split) <;> omega) ⟨rfl, rfl⟩ (fun _ h => h.fin (by repeat ((conv => arg 1; whnf); (conv => arg 2; whnf); first | with_reducible exact .done | exact Fin.all _ | refine .cons (by repeat ((conv => arg 2; whnf); first | with_reducible exact .here | ((with_reducible refine Del.hereC ?_); rfl) | ((with_reducible refine Del.hereS ?_ ?_ ?_) <;> rfl) | exact .here | apply Del.there)) ?_ | refine .drop ?_))))
    · skip
      refine g_not ?_
      refine g_not ?_
      refine g_not ?_
      refine g_not ?_
      refine g_not ?_
      refine g_ev (e_pk rfl) ?_
      refine g_nil ?_
      refine gc_false ?_
      refine gc_skip ?_
      refine gc_region ?_
      refine g_ev (e_mv) ?_
      refine g_ev ((e_addw rfl rfl).to (v' := .int .i64 (2 : Int)) rfl) ?_
      refine g_ev (e_as) ?_
      refine g_nil ?_
      refine gl_round ?_
      refine gc_seq ?_
      refine gc_seq ?_
      refine gc_region ?_
      refine g_ev (e_mv) ?_
      refine g_ev (e_lt rfl rfl) ?_
      refine g_nil ?_
      refine gc_false ?_ (hc := by first | ((conv => lhs; whnf); done) | ((conv => lhs; whnf); rfl))
      refine gc_exit ?_
      refine gc_seq ?_
      refine gc_region ?_
      refine g_ev (e_mv) ?_
      refine g_ev (e_as) ?_
      refine g_nil ?_
      refine gc_ret ?_
      exact (ret1 (v := .int .u32 ((s.val : Nat) : Int)) (L1 := [refP b s]) rfl (by (conv => lhs; whnf); refine congrArg (Value.int .u32) ?_; unfold MemS.val; (repeat' split) <;> omega) ⟨rfl, rfl⟩ (fun _ h => h.fin (by repeat ((conv => arg 1; whnf); (conv => arg 2; whnf); first | with_reducible exact .done | exact Fin.all _ | refine .cons (by repeat ((conv => arg 2; whnf); first | with_reducible exact .here | ((with_reducible refine Del.hereC ?_); rfl) | ((with_reducible refine Del.hereS ?_ ?_ ?_) <;> rfl) | exact .here | apply Del.there)) ?_ | refine .drop ?_))))


def stepO (s : MemS) (k : Nat) : Int × MemS :=
  if s.by (5 * k) = 165 then (0, s) else if s.by (5 * (1 - k)) = 165 then s.slot k (s.word (1 - k)) else if s.by (5 * k) = 0 then (0, s) else s.write ((5 * k : Nat) : Int) 0
def runO (s : MemS) : Nat → Int × MemS
  | 0 => (0, s)
  | k + 1 => if (runO s k).1 = 0 then stepO (runO s k).2 k else runO s k
theorem runO_next {s st : MemS} {k : Nat} (h : runO s k = (0, st)) : runO s (k + 1) = stepO st k := by
  show (if (runO s k).1 = 0 then stepO (runO s k).2 k else runO s k) = _
  rw [h]; rfl
theorem runO_stop {s st : MemS} {k : Nat} (hk : k < 2) (h : runO s k = (0, st)) (he : ¬ (stepO st k).1 = 0) : runO s 2 = stepO st k := by
  have h1 := runO_next h
  have e : k = 0 ∨ k = 1 := by omega
  rcases e with rfl | rfl
  · show (if (runO s 1).1 = 0 then stepO (runO s 1).2 1 else runO s 1) = _
    rw [h1, if_neg he]
  · exact h1
theorem wseq_len : ∀ (l : List (Int × UInt8)) (s : MemS), (wseq s l).2.bs.length = s.bs.length
  | [], _ => rfl
  | (a, c) :: l, s => by
    by_cases h : (s.write a c).1 = 0
    · rw [wseq_go h, wseq_len l, MemS.write_len]
    · rw [wseq_stop h, MemS.write_len]
theorem stepO_len (s : MemS) (k : Nat) : (stepO s k).2.bs.length = s.bs.length := by
  unfold stepO
  split; · rfl
  split; · exact wseq_len _ _
  split; · rfl
  exact MemS.write_len _ _ _


abbrev rcellB (bc b mx v : Nat) (dead : Bool) : HProp := blk bc 51 [.pointer (some ⟨b, 0, none⟩), .int .u32 (mx : Int), .int .u32 (v : Int), .bool dead]

theorem ropen_range (b : Nat) (s : MemS) (mx : Nat) (h : mx = 0 ∨ s.bs.length < 10) : Tri Try.prog 14 #[.pointer (some ⟨b, 0, none⟩), .int .u32 (mx : Int)] [refP b s] (openR (2, s) (refP b) (fun bc => rcellB bc b mx s.val false)) := by
  refine tri_of Try.call14 Try.func14 rfl fun B F => ?_
  refine gc_open (refM b s) .here (fun _ h => h) (fun bsl => ?_)
  refine gc_fact (φ := slV bsl s.bs.length) (fun w h => (h.rds (.there .here)).slv) fun ⟨sl, cp, hsl, hnl, hni⟩ => ?_
  subst hsl
  refine gc_seq ?_
  refine gc_region ?_
  refine g_ev (e_as) ?_
  refine g_ev (e_as) ?_
  refine g_nil ?_
  refine gc_seq ?_
  refine gc_seq ?_
  refine gc_region ?_
  refine g_ev (e_mv) ?_
  refine g_ev (e_eq rfl rfl) ?_
  refine g_ev (e_mv) ?_
  first | refine g_dec 12 rfl (fun c12 => ?_) (fun c12 => ?_) | refine g_ndec 12 rfl (fun c12 => ?_) (fun c12 => ?_) | refine g_bool 12 rfl (fun c12 => ?_) (fun c12 => ?_)
  · skip
    refine g_not ?_
    refine g_not ?_
    refine g_not ?_
    refine g_not ?_
    refine g_not ?_
    refine g_not ?_
    refine g_ev (e_pk rfl) ?_
    refine g_nil ?_
    refine gc_true ?_
    refine gc_seq ?_
    refine gc_region ?_
    refine g_ev (e_as) ?_
    refine g_ev (e_as) ?_
    refine g_nil ?_
    refine gc_ret ?_
    exact ret2 (L1 := [refP b s]) rfl (by (conv => lhs; whnf); try rfl) (by (conv => lhs; whnf); try rfl) (by unfold openR; rw [if_neg (by simp)]; exact ⟨rfl, rfl⟩) (fun _ h => h.fin (.fold (M := refM b s _) (fun _ h => ⟨_, h⟩) (by repeat ((conv => arg 1; whnf); (conv => arg 2; whnf); first | with_reducible exact .done | exact Fin.all _ | refine .cons (by repeat ((conv => arg 2; whnf); first | with_reducible exact .here | ((with_reducible refine Del.hereC ?_); rfl) | ((with_reducible refine Del.hereS ?_ ?_ ?_) <;> rfl) | exact .here | apply Del.there)) ?_ | refine .drop ?_))))
  · skip
    refine g_ev (e_mv) ?_
    refine g_ev (e_nc rfl) ?_
    refine g_ev (e_fa Try.underlying47 rfl rfl Try.sizeOf22) ?_
    refine g_ev (e_ld Try.underlying22 rfl (by repeat ((conv => arg 2; whnf); first | with_reducible exact .here | ((with_reducible refine Del.hereC ?_); rfl) | ((with_reducible refine Del.hereS ?_ ?_ ?_) <;> rfl) | exact .here | apply Del.there)) rfl) ?_
    refine g_ev (e_len Try.underlying22 rfl) ?_
    refine g_ev (e_lt rfl rfl) ?_
    refine g_ev (e_pk rfl) ?_
    refine g_nil ?_
    first | refine gc_dec rfl (fun c19 => ?_) (fun c19 => ?_) | refine gc_ndec rfl (fun c19 => ?_) (fun c19 => ?_) | refine gc_cond rfl (fun c19 => ?_) (fun c19 => ?_)
    · skip
      refine gc_seq ?_
      refine gc_region ?_
      refine g_ev (e_as) ?_
      refine g_ev (e_as) ?_
      refine g_nil ?_
      refine gc_ret ?_
      exact ret2 (L1 := [refP b s]) rfl (by (conv => lhs; whnf); try rfl) (by (conv => lhs; whnf); try rfl) (by unfold openR; rw [if_neg (by simp)]; exact ⟨rfl, rfl⟩) (fun _ h => h.fin (.fold (M := refM b s _) (fun _ h => ⟨_, h⟩) (by repeat ((conv => arg 1; whnf); (conv => arg 2; whnf); first | with_reducible exact .done | exact Fin.all _ | refine .cons (by repeat ((conv => arg 2; whnf); first | with_reducible exact .here | ((with_reducible refine Del.hereC ?_); rfl) | ((with_reducible refine Del.hereS ?_ ?_ ?_) <;> rfl) | exact .here | apply Del.there)) ?_ | refine .drop ?_))))
    · omega

theorem ropen_off (b : Nat) (s : MemS) (mx : Nat) (h0 : mx ≠ 0) (hl : 10 ≤ s.bs.length) (ho : s.off = true) : Tri Try.prog 14 #[.pointer (some ⟨b, 0, none⟩), .int .u32 (mx : Int)] [refP b s] (openR (70, s) (refP b) (fun bc => rcellB bc b mx s.val false)) := by
  refine tri_of Try.call14 Try.func14 rfl fun B F => ?_
  refine gc_open (refM b s) .here (fun _ h => h) (fun bsl => ?_)
  refine gc_fact (φ := slV bsl s.bs.length) (fun w h => (h.rds (.there .here)).slv) fun ⟨sl, cp, hsl, hnl, hni⟩ => ?_
  subst hsl
  refine gc_seq ?_
  refine gc_region ?_
  refine g_ev (e_as) ?_
  refine g_ev (e_as) ?_
  refine g_nil ?_
  refine gc_seq ?_
  refine gc_seq ?_
  refine gc_region ?_
  refine g_ev (e_mv) ?_
  refine g_ev (e_eq rfl rfl) ?_
  refine g_ev (e_mv) ?_
  first | refine g_dec 12 rfl (fun c12 => ?_) (fun c12 => ?_) | refine g_ndec 12 rfl (fun c12 => ?_) (fun c12 => ?_) | refine g_bool 12 rfl (fun c12 => ?_) (fun c12 => ?_)
  · omega
  · skip
    refine g_ev (e_mv) ?_
    refine g_ev (e_nc rfl) ?_
    refine g_ev (e_fa Try.underlying47 rfl rfl Try.sizeOf22) ?_
    refine g_ev (e_ld Try.underlying22 rfl (by repeat ((conv => arg 2; whnf); first | with_reducible exact .here | ((with_reducible refine Del.hereC ?_); rfl) | ((with_reducible refine Del.hereS ?_ ?_ ?_) <;> rfl) | exact .here | apply Del.there)) rfl) ?_
    refine g_ev (e_len Try.underlying22 rfl) ?_
    refine g_ev (e_lt rfl rfl) ?_
    refine g_ev (e_pk rfl) ?_
    refine g_nil ?_
    first | refine gc_dec rfl (fun c19 => ?_) (fun c19 => ?_) | refine gc_ndec rfl (fun c19 => ?_) (fun c19 => ?_) | refine gc_cond rfl (fun c19 => ?_) (fun c19 => ?_)
    · omega
    · skip
      refine gc_skip ?_
      refine gc_seq ?_
      refine gc_seq ?_
      refine gc_region ?_
      refine g_ev (e_mv) ?_
      refine g_ev (e_nc rfl) ?_
      refine g_ev (e_fa Try.underlying47 rfl rfl Try.sizeOf4) ?_
      refine g_ev (e_ld Try.underlying4 rfl (by repeat ((conv => arg 2; whnf); first | with_reducible exact .here | ((with_reducible refine Del.hereC ?_); rfl) | ((with_reducible refine Del.hereS ?_ ?_ ?_) <;> rfl) | exact .here | apply Del.there)) rfl) ?_
      refine g_nil ?_
      first | refine gc_dec rfl (fun c23 => ?_) (fun c23 => ?_) | refine gc_ndec rfl (fun c23 => ?_) (fun c23 => ?_) | refine gc_cond rfl (fun c23 => ?_) (fun c23 => ?_)
      · skip
        refine gc_seq ?_
        refine gc_region ?_
        refine g_ev (e_as) ?_
        refine g_ev (e_as) ?_
        refine g_nil ?_
        refine gc_ret ?_
        exact ret2 (L1 := [refP b s]) rfl (by (conv => lhs; whnf); try rfl) (by (conv => lhs; whnf); try rfl) (by unfold openR; rw [if_neg (by simp)]; exact ⟨rfl, rfl⟩) (fun _ h => h.fin (.fold (M := refM b s _) (fun _ h => ⟨_, h⟩) (by repeat ((conv => arg 1; whnf); (conv => arg 2; whnf); first | with_reducible exact .done | exact Fin.all _ | refine .cons (by repeat ((conv => arg 2; whnf); first | with_reducible exact .here | ((with_reducible refine Del.hereC ?_); rfl) | ((with_reducible refine Del.hereS ?_ ?_ ?_) <;> rfl) | exact .here | apply Del.there)) ?_ | refine .drop ?_))))
      · rw [ho] at c23; cases c23

theorem ropen_on (b : Nat) (s : MemS) (mx : Nat) (h0 : mx ≠ 0) (hl : 10 ≤ s.bs.length) (hm : s.bs.length ≤ 4096) (ho : s.off = false) : Tri Try.prog 14 #[.pointer (some ⟨b, 0, none⟩), .int .u32 (mx : Int)] [refP b s] (openR (runO s 2) (refP b) (fun bc => rcellB bc b mx s.val false)) := by
  refine tri_of Try.call14 Try.func14 rfl fun B F => ?_
  refine gc_open (refM b s) .here (fun _ h => h) (fun bsl => ?_)
  refine gc_fact (φ := slV bsl s.bs.length) (fun w h => (h.rds (.there .here)).slv) fun ⟨sl, cp, hsl, hnl, hni⟩ => ?_
  subst hsl
  refine gc_seq ?_
  refine gc_region ?_
  refine g_ev (e_as) ?_
  refine g_ev (e_as) ?_
  refine g_nil ?_
  refine gc_seq ?_
  refine gc_seq ?_
  refine gc_region ?_
  refine g_ev (e_mv) ?_
  refine g_ev (e_eq rfl rfl) ?_
  refine g_ev (e_mv) ?_
  first | refine g_dec 12 rfl (fun c12 => ?_) (fun c12 => ?_) | refine g_ndec 12 rfl (fun c12 => ?_) (fun c12 => ?_) | refine g_bool 12 rfl (fun c12 => ?_) (fun c12 => ?_)
  · omega
  · skip
    refine g_ev (e_mv) ?_
    refine g_ev (e_nc rfl) ?_
    refine g_ev (e_fa Try.underlying47 rfl rfl Try.sizeOf22) ?_
    refine g_ev (e_ld Try.underlying22 rfl (by repeat ((conv => arg 2; whnf); first | with_reducible exact .here | ((with_reducible refine Del.hereC ?_); rfl) | ((with_reducible refine Del.hereS ?_ ?_ ?_) <;> rfl) | exact .here | apply Del.there)) rfl) ?_
    refine g_ev (e_len Try.underlying22 rfl) ?_
    refine g_ev (e_lt rfl rfl) ?_
    refine g_ev (e_pk rfl) ?_
    refine g_nil ?_
    first | refine gc_dec rfl (fun c19 => ?_) (fun c19 => ?_) | refine gc_ndec rfl (fun c19 => ?_) (fun c19 => ?_) | refine gc_cond rfl (fun c19 => ?_) (fun c19 => ?_)
    · omega
    · skip
      refine gc_skip ?_
      refine gc_seq ?_
      refine gc_seq ?_
      refine gc_region ?_
      refine g_ev (e_mv) ?_
      refine g_ev (e_nc rfl) ?_
      refine g_ev (e_fa Try.underlying47 rfl rfl Try.sizeOf4) ?_
      refine g_ev (e_ld Try.underlying4 rfl (by repeat ((conv => arg 2; whnf); first | with_reducible exact .here | ((with_reducible refine Del.hereC ?_); rfl) | ((with_reducible refine Del.hereS ?_ ?_ ?_) <;> rfl) | exact .here | apply Del.there)) rfl) ?_
      refine g_nil ?_
      first | refine gc_dec rfl (fun c23 => ?_) (fun c23 => ?_) | refine gc_ndec rfl (fun c23 => ?_) (fun c23 => ?_) | refine gc_cond rfl (fun c23 => ?_) (fun c23 => ?_)
      · rw [ho] at c23; cases c23
      · skip
        refine gc_skip ?_
        refine gc_seq ?_
        refine gc_region ?_
        refine g_ev (e_mv) ?_
        refine g_fin (L1 := [refP b s]) (F := F) (.fold (M := refM b s _) (fun _ h => ⟨_, h⟩) (by repeat ((conv => arg 1; whnf); (conv => arg 2; whnf); first | with_reducible exact .done | exact Fin.all _ | refine .cons (by repeat ((conv => arg 2; whnf); first | with_reducible exact .here | ((with_reducible refine Del.hereC ?_); rfl) | ((with_reducible refine Del.hereS ?_ ?_ ?_) <;> rfl) | exact .here | apply Del.there)) ?_ | refine .drop ?_))) ?_
        refine g_eff (s_call (rvalue_t b s hl hm) (.cons (by repeat ((conv => arg 2; whnf); first | with_reducible exact .here | ((with_reducible refine Del.hereC ?_); rfl) | ((with_reducible refine Del.hereS ?_ ?_ ?_) <;> rfl) | exact .here | apply Del.there)) (.nil))) ?_
        rintro _ _ ⟨_, ⟨rfl, rfl⟩, rfl⟩
        refine g_ev (e_as) ?_
        refine g_nil ?_
        refine gc_seq ?_
        refine gc_seq ?_
        refine gc_region ?_
        refine g_ev (e_as) ?_
        refine g_nil ?_
        refine gc_block ?_
        refine gc_loop (α := Nat × MemS) (fun x E L => x.1 ≤ 2 ∧ runO s x.1 = (0, x.2) ∧ x.2.bs.length = s.bs.length ∧ E 0 = .pointer (some ⟨b, 0, none⟩) ∧ E 1 = .int .u32 (mx : Int) ∧ E 6 = .int .u32 (s.val : Int) ∧ E 7 = .int .i64 (x.1 : Int) ∧ L = refP b x.2 :: F) (fun x => 2 - x.1) ((0, s)) ?_ ?_
        · exact ⟨Nat.zero_le _, rfl, rfl, rfl, rfl, rfl, rfl, rfl⟩
        · rintro ⟨k, st⟩ E L ⟨hk, hrun, hlen, h0, h1, h6, h7, rfl⟩
          replace hk : k ≤ 2 := hk
          replace hrun : runO s k = (0, st) := hrun
          replace hlen : st.bs.length = s.bs.length := hlen
          refine gc_slot 0 _ ?_ h0
          refine gc_slot 1 _ ?_ h1
          refine gc_slot 6 _ ?_ h6
          refine gc_slot 7 _ ?_ h7
          refine gc_seq ?_
          refine gc_seq ?_
          refine gc_region ?_
          refine g_ev (e_mv) ?_
          refine g_ev (e_lt rfl rfl) ?_
          refine g_nil ?_
          first | refine gc_dec rfl (fun c27 => ?_) (fun c27 => ?_) | refine gc_ndec rfl (fun c27 => ?_) (fun c27 => ?_) | refine gc_cond rfl (fun c27 => ?_) (fun c27 => ?_)
          · skip
            refine gc_skip ?_
            refine gc_seq ?_
            refine gc_block ?_
            refine gc_seq ?_
            refine gc_region ?_
            refine g_ev (e_as) ?_
            refine g_nil ?_
            refine gc_seq ?_
            refine gc_region ?_
            have hk1 : k ≤ 1 := by omega
            refine g_ev (e_mv) ?_
            refine g_ev (e_mv) ?_
            refine g_ev ((e_subw rfl rfl).to (v' := .int .i64 ((1 - k : Nat) : Int)) (congrArg _ (wrapN (by omega) (by omega)))) ?_
            refine g_eff (s_call (holds_t b st (1 - k) (by omega) (by omega)) (.cons (by repeat ((conv => arg 2; whnf); first | with_reducible exact .here | ((with_reducible refine Del.hereC ?_); rfl) | ((with_reducible refine Del.hereS ?_ ?_ ?_) <;> rfl) | exact .here | apply Del.there)) (.nil))) ?_
            rintro _ _ ⟨_, ⟨rfl, rfl⟩, rfl⟩
            refine g_ev (e_as) ?_
            refine g_nil ?_
            refine gc_seq ?_
            refine gc_seq ?_
            refine gc_region ?_
            refine g_ev (e_mv) ?_
            refine g_ev (e_mv) ?_
            refine g_eff (s_call (holds_t b st k (by omega) (by omega)) (.cons (by repeat ((conv => arg 2; whnf); first | with_reducible exact .here | ((with_reducible refine Del.hereC ?_); rfl) | ((with_reducible refine Del.hereS ?_ ?_ ?_) <;> rfl) | exact .here | apply Del.there)) (.nil))) ?_
            rintro _ _ ⟨_, ⟨rfl, rfl⟩, rfl⟩
            refine g_ev (e_not' rfl) ?_
            refine g_ev (e_mv) ?_
            first | refine g_dec 38 rfl (fun c38 => ?_) (fun c38 => ?_) | refine g_ndec 38 rfl (fun c38 => ?_) (fun c38 => ?_) | refine g_bool 38 rfl (fun c38 => ?_) (fun c38 => ?_)
            · skip
              refine g_ev (e_mv) ?_
              refine g_ev (e_pk rfl) ?_
              refine g_nil ?_
              first | refine gc_dec rfl (fun c40 => ?_) (fun c40 => ?_) | refine gc_ndec rfl (fun c40 => ?_) (fun c40 => ?_) | refine gc_cond rfl (fun c40 => ?_) (fun c40 => ?_)
              · skip
                refine gc_region ?_
                refine g_ev (e_mv) ?_
                refine g_ev (e_mv) ?_
                refine g_ev (e_mv) ?_
                refine g_ev (e_mv) ?_
                refine g_ev ((e_subw rfl rfl).to (v' := .int .i64 ((1 - k : Nat) : Int)) (congrArg _ (wrapN (by omega) (by omega)))) ?_
                refine g_eff (s_call (rword_t b st (1 - k) (by omega) (by omega)) (.cons (by repeat ((conv => arg 2; whnf); first | with_reducible exact .here | ((with_reducible refine Del.hereC ?_); rfl) | ((with_reducible refine Del.hereS ?_ ?_ ?_) <;> rfl) | exact .here | apply Del.there)) (.nil))) ?_
                rintro _ _ ⟨_, ⟨rfl, rfl⟩, rfl⟩
                refine g_eff (s_call (rslot_t b st k (st.word (1 - k)) (by omega)) (.cons (by repeat ((conv => arg 2; whnf); first | with_reducible exact .here | ((with_reducible refine Del.hereC ?_); rfl) | ((with_reducible refine Del.hereS ?_ ?_ ?_) <;> rfl) | exact .here | apply Del.there)) (.nil))) ?_
                rintro _ _ ⟨_, ⟨rfl, rfl⟩, rfl⟩
                refine g_ev (e_as) ?_
                refine g_nil ?_
                refine gc_seq ?_
                refine gc_region ?_
                refine g_ev (e_mv) ?_
                refine g_ev (e_ne rfl rfl) ?_
                refine g_nil ?_
                first | refine gc_dec rfl (fun c68 => ?_) (fun c68 => ?_) | refine gc_ndec rfl (fun c68 => ?_) (fun c68 => ?_) | refine gc_cond rfl (fun c68 => ?_) (fun c68 => ?_)
                · skip
                  refine gc_seq ?_
                  refine gc_region ?_
                  refine g_ev (e_mv) ?_
                  refine g_ev (e_as) ?_
                  refine g_ev (e_as) ?_
                  refine g_nil ?_
                  refine gc_ret ?_
                  have hs : stepO st k = st.slot k (st.word (1 - k)) := by unfold stepO; rw [if_neg (by omega), if_pos (by omega)]
                  have hr : runO s 2 = st.slot k (st.word (1 - k)) := (runO_stop (by omega) hrun (by rw [hs]; exact c68)).trans hs
                  exact ret2 (L1 := [refP b (st.slot k (st.word (1 - k))).2]) rfl (by (conv => lhs; whnf); try rfl) (by (conv => lhs; whnf); try rfl) (by unfold openR; rw [hr, if_neg c68]; exact ⟨rfl, rfl⟩) (fun _ h => h.fin (by repeat ((conv => arg 1; whnf); (conv => arg 2; whnf); first | with_reducible exact .done | exact Fin.all _ | refine .cons (by repeat ((conv => arg 2; whnf); first | with_reducible exact .here | ((with_reducible refine Del.hereC ?_); rfl) | ((with_reducible refine Del.hereS ?_ ?_ ?_) <;> rfl) | exact .here | apply Del.there)) ?_ | refine .drop ?_)))
                · skip
                  refine gc_skip ?_
                  refine gc_region ?_
                  refine g_ev (e_mv) ?_
                  refine g_ev ((e_addw rfl rfl).to (v' := .int .i64 ((k + 1 : Nat) : Int)) (congrArg _ (wrapN (by omega) (by omega)))) ?_
                  refine g_ev (e_as) ?_
                  refine g_nil ?_
                  have hs : stepO st k = st.slot k (st.word (1 - k)) := by unfold stepO; rw [if_neg (by omega), if_pos (by omega)]
                  exact ⟨(k + 1, (st.slot k (st.word (1 - k)) : Int × MemS).2), ⟨by show k + 1 ≤ 2; omega, (by rw [runO_next hrun, hs]; exact Prod.ext c68 rfl), by have := stepO_len st k; rw [hs] at this; exact this.trans hlen, rfl, rfl, rfl, rfl, rfl⟩, by show 2 - (k + 1) < 2 - k; omega⟩
              · skip
                refine gc_seq ?_
                refine gc_region ?_
                refine g_ev (e_mv) ?_
                refine g_ev (e_mv) ?_
                refine g_eff (s_call (holds_t b st k (by omega) (by omega)) (.cons (by repeat ((conv => arg 2; whnf); first | with_reducible exact .here | ((with_reducible refine Del.hereC ?_); rfl) | ((with_reducible refine Del.hereS ?_ ?_ ?_) <;> rfl) | exact .here | apply Del.there)) (.nil))) ?_
                rintro _ _ ⟨_, ⟨rfl, rfl⟩, rfl⟩
                refine g_ev ((e_not' rfl).to (v' := .bool true) (congrArg Value.bool (by simp [c38]))) ?_
                refine g_ev (e_mv) ?_
                refine g_ev (e_mv) ?_
                refine g_open (refM b st) .here (fun _ h => h) (fun bsl => ?_)
                refine g_fact (φ := slV bsl st.bs.length) (fun w h => (h.rds (.there .here)).slv) fun ⟨sl, cp, hsl, hnl, hni⟩ => ?_
                subst hsl
                refine g_own (m := st.bs.length) (v := .slice sl st.bs.length cp) (e := 5) (k := 1) (xs := bv st.bs) (by omega) (by repeat ((conv => arg 2; whnf); first | with_reducible exact .here | ((with_reducible refine Del.hereC ?_); rfl) | ((with_reducible refine Del.hereS ?_ ?_ ?_) <;> rfl) | exact .here | apply Del.there)) fun b1 cap rest hv hv1 hv2 hv3 hv4 => ?_
                cases hv
                refine g_ev (e_nc rfl) ?_
                refine g_ev (e_fa Try.underlying47 rfl rfl Try.sizeOf22) ?_
                refine g_ev (e_ld Try.underlying22 rfl (by repeat ((conv => arg 2; whnf); first | with_reducible exact .here | ((with_reducible refine Del.hereC ?_); rfl) | ((with_reducible refine Del.hereS ?_ ?_ ?_) <;> rfl) | exact .here | apply Del.there)) rfl) ?_
                refine g_ev (e_mv) ?_
                refine g_ev ((e_mulw rfl rfl).to (v' := .int .i64 ((5 * k : Nat) : Int)) (congrArg _ (wrapN (by omega) (by omega)))) ?_
                refine g_ev (e_ia Try.underlying22 Try.sizeOf5 rfl rfl (q := 5 * k) rfl (by omega)) ?_
                refine g_ev (e_ld (v := .int .u8 ((st.by (5 * k) : Nat) : Int)) Try.underlying5 rfl (by repeat ((conv => arg 2; whnf); first | with_reducible exact .here | ((with_reducible refine Del.hereC ?_); rfl) | ((with_reducible refine Del.hereS ?_ ?_ ?_) <;> rfl) | exact .here | apply Del.there)) (by rw [List.getElem?_append_left (by rw [bv_len]; omega)]; simpa using MemS.by_get (s := st) (j := 5 * k) (by omega))) ?_
                refine g_ev (e_ne rfl rfl) ?_
                refine g_fin (L1 := [refP b st]) (F := F) (.fold (M := refM b st (.slice (some ⟨b1, 0, none⟩) st.bs.length cp)) (fun _ h => ⟨_, h⟩) (.cons (by repeat ((conv => arg 2; whnf); first | with_reducible exact .here | ((with_reducible refine Del.hereC ?_); rfl) | ((with_reducible refine Del.hereS ?_ ?_ ?_) <;> rfl) | exact .here | apply Del.there)) (.fold (M := [blk b1 5 (bv st.bs ++ rest)]) (own_fold (rest := rest) rfl (by simp [bv]) (by omega) (by omega) (by rw [← hv4])) (.cons (by repeat ((conv => arg 2; whnf); first | with_reducible exact .here | ((with_reducible refine Del.hereC ?_); rfl) | ((with_reducible refine Del.hereS ?_ ?_ ?_) <;> rfl) | exact .here | apply Del.there)) .done)))) ?_
                refine g_ev (e_pk rfl) ?_
                refine g_nil ?_
                first | refine gc_dec rfl (fun c62 => ?_) (fun c62 => ?_) | refine gc_ndec rfl (fun c62 => ?_) (fun c62 => ?_) | refine gc_cond rfl (fun c62 => ?_) (fun c62 => ?_)
                · skip
                  refine gc_region ?_
                  refine g_ev (e_mv) ?_
                  refine g_ev (e_mv) ?_
                  refine g_ev ((e_mulw rfl rfl).to (v' := .int .i64 ((5 * k : Nat) : Int)) (congrArg _ (wrapN (by omega) (by omega)))) ?_
                  refine g_eff (s_call (rwrite_t b st ((5 * k : Nat) : Int) 0) (.cons (by repeat ((conv => arg 2; whnf); first | with_reducible exact .here | ((with_reducible refine Del.hereC ?_); rfl) | ((with_reducible refine Del.hereS ?_ ?_ ?_) <;> rfl) | exact .here | apply Del.there)) (.nil))) ?_
                  rintro _ _ ⟨_, ⟨rfl, rfl⟩, rfl⟩
                  refine g_ev (e_as) ?_
                  refine g_nil ?_
                  refine gc_seq ?_
                  refine gc_region ?_
                  refine g_ev (e_mv) ?_
                  refine g_ev (e_ne rfl rfl) ?_
                  refine g_nil ?_
                  first | refine gc_dec rfl (fun c68 => ?_) (fun c68 => ?_) | refine gc_ndec rfl (fun c68 => ?_) (fun c68 => ?_) | refine gc_cond rfl (fun c68 => ?_) (fun c68 => ?_)
                  · skip
                    refine gc_seq ?_
                    refine gc_region ?_
                    refine g_ev (e_mv) ?_
                    refine g_ev (e_as) ?_
                    refine g_ev (e_as) ?_
                    refine g_nil ?_
                    refine gc_ret ?_
                    have hs : stepO st k = st.write ((5 * k : Nat) : Int) 0 := by unfold stepO; rw [if_neg (by omega), if_neg (by omega), if_neg (by omega)]
                    have hr : runO s 2 = st.write ((5 * k : Nat) : Int) 0 := (runO_stop (by omega) hrun (by rw [hs]; exact c68)).trans hs
                    exact ret2 (L1 := [refP b (st.write ((5 * k : Nat) : Int) 0).2]) rfl (by (conv => lhs; whnf); try rfl) (by (conv => lhs; whnf); try rfl) (by unfold openR; rw [hr, if_neg c68]; exact ⟨rfl, rfl⟩) (fun _ h => h.fin (by repeat ((conv => arg 1; whnf); (conv => arg 2; whnf); first | with_reducible exact .done | exact Fin.all _ | refine .cons (by repeat ((conv => arg 2; whnf); first | with_reducible exact .here | ((with_reducible refine Del.hereC ?_); rfl) | ((with_reducible refine Del.hereS ?_ ?_ ?_) <;> rfl) | exact .here | apply Del.there)) ?_ | refine .drop ?_)))
                  · skip
                    refine gc_skip ?_
                    refine gc_region ?_
                    refine g_ev (e_mv) ?_
                    refine g_ev ((e_addw rfl rfl).to (v' := .int .i64 ((k + 1 : Nat) : Int)) (congrArg _ (wrapN (by omega) (by omega)))) ?_
                    refine g_ev (e_as) ?_
                    refine g_nil ?_
                    have hs : stepO st k = st.write ((5 * k : Nat) : Int) 0 := by unfold stepO; rw [if_neg (by omega), if_neg (by omega), if_neg (by omega)]
                    exact ⟨(k + 1, (st.write ((5 * k : Nat) : Int) 0 : Int × MemS).2), ⟨by show k + 1 ≤ 2; omega, (by rw [runO_next hrun, hs]; exact Prod.ext c68 rfl), by have := stepO_len st k; rw [hs] at this; exact this.trans hlen, rfl, rfl, rfl, rfl, rfl⟩, by show 2 - (k + 1) < 2 - k; omega⟩
                · skip
                  refine gc_skip ?_
                  refine gc_seq ?_
                  refine gc_region ?_
                  refine g_ev (e_mv) ?_
                  refine g_ev (e_ne rfl rfl) ?_
                  refine g_nil ?_
                  first | refine gc_dec rfl (fun c68 => ?_) (fun c68 => ?_) | refine gc_ndec rfl (fun c68 => ?_) (fun c68 => ?_) | refine gc_cond rfl (fun c68 => ?_) (fun c68 => ?_)
                  · skip
                    refine gc_seq ?_
                    refine gc_region ?_
                    refine g_ev (e_mv) ?_
                    refine g_ev (e_as) ?_
                    refine g_ev (e_as) ?_
                    refine g_nil ?_
                    refine gc_ret ?_
                    exact absurd rfl c68
                  · skip
                    refine gc_skip ?_
                    refine gc_region ?_
                    refine g_ev (e_mv) ?_
                    refine g_ev ((e_addw rfl rfl).to (v' := .int .i64 ((k + 1 : Nat) : Int)) (congrArg _ (wrapN (by omega) (by omega)))) ?_
                    refine g_ev (e_as) ?_
                    refine g_nil ?_
                    have hs : stepO st k = (0, st) := by unfold stepO; rw [if_neg (by omega), if_neg (by omega), if_pos (by omega)]
                    exact ⟨(k + 1, ((0, st) : Int × MemS).2), ⟨by show k + 1 ≤ 2; omega, (by rw [runO_next hrun, hs]), by have := stepO_len st k; rw [hs] at this; exact this.trans hlen, rfl, rfl, rfl, rfl, rfl⟩, by show 2 - (k + 1) < 2 - k; omega⟩
            · skip
              refine g_not ?_
              refine g_ev (e_pk rfl) ?_
              refine g_nil ?_
              refine gc_false ?_
              refine gc_seq ?_
              refine gc_region ?_
              refine g_ev (e_mv) ?_
              refine g_ev (e_mv) ?_
              refine g_eff (s_call (holds_t b st k (by omega) (by omega)) (.cons (by repeat ((conv => arg 2; whnf); first | with_reducible exact .here | ((with_reducible refine Del.hereC ?_); rfl) | ((with_reducible refine Del.hereS ?_ ?_ ?_) <;> rfl) | exact .here | apply Del.there)) (.nil))) ?_
              rintro _ _ ⟨_, ⟨rfl, rfl⟩, rfl⟩
              refine g_ev ((e_not' rfl).to (v' := .bool false) (congrArg Value.bool (by simp [c38]))) ?_
              refine g_ev (e_mv) ?_
              refine g_not ?_
              refine g_not ?_
              refine g_not ?_
              refine g_not ?_
              refine g_not ?_
              refine g_not ?_
              refine g_not ?_
              refine g_not ?_
              refine g_not ?_
              refine g_ev (e_pk rfl) ?_
              refine g_nil ?_
              refine gc_false ?_
              refine gc_skip ?_
              refine gc_seq ?_
              refine gc_region ?_
              refine g_ev (e_mv) ?_
              refine g_ev (e_ne rfl rfl) ?_
              refine g_nil ?_
              first | refine gc_dec rfl (fun c68 => ?_) (fun c68 => ?_) | refine gc_ndec rfl (fun c68 => ?_) (fun c68 => ?_) | refine gc_cond rfl (fun c68 => ?_) (fun c68 => ?_)
              · skip
                refine gc_seq ?_
                refine gc_region ?_
                refine g_ev (e_mv) ?_
                refine g_ev (e_as) ?_
                refine g_ev (e_as) ?_
                refine g_nil ?_
                refine gc_ret ?_
                exact absurd rfl c68
              · skip
                refine gc_skip ?_
                refine gc_region ?_
                refine g_ev (e_mv) ?_
                refine g_ev ((e_addw rfl rfl).to (v' := .int .i64 ((k + 1 : Nat) : Int)) (congrArg _ (wrapN (by omega) (by omega)))) ?_
                refine g_ev (e_as) ?_
                refine g_nil ?_
                have hs : stepO st k = (0, st) := by unfold stepO; rw [if_pos (by omega)]
                exact ⟨(k + 1, ((0, st) : Int × MemS).2), ⟨by show k + 1 ≤ 2; omega, (by rw [runO_next hrun, hs]), by have := stepO_len st k; rw [hs] at this; exact this.trans hlen, rfl, rfl, rfl, rfl, rfl⟩, by show 2 - (k + 1) < 2 - k; omega⟩
          · skip
            refine gc_exit ?_
            refine gc_seq ?_
            refine gc_region ?_
            refine g_ev (e_mv) ?_
            refine g_ev (e_mv) ?_
            refine g_ev (e_mv) ?_
            refine g_ev (e_bd Try.underlying51 Try.zeroValue51 pl51 rfl) ?_
            refine g_eff (s_bx) ?_
            rintro _ _ ⟨b74, rfl, rfl⟩
            refine g_ev (e_as) ?_
            refine g_ev (e_as) ?_
            refine g_nil ?_
            refine gc_ret ?_
            obtain rfl : k = 2 := by omega
            exact ret2 (L1 := [rcellB b74 b mx s.val false, refP b st]) rfl (by (conv => lhs; whnf); try rfl) (by (conv => lhs; whnf); try rfl) (by unfold openR; rw [hrun, if_pos rfl]; exact ⟨b74, rfl, rfl⟩) (fun _ h => h.fin (by repeat ((conv => arg 1; whnf); (conv => arg 2; whnf); first | with_reducible exact .done | exact Fin.all _ | refine .cons (by repeat ((conv => arg 2; whnf); first | with_reducible exact .here | ((with_reducible refine Del.hereC ?_); rfl) | ((with_reducible refine Del.hereS ?_ ?_ ?_) <;> rfl) | exact .here | apply Del.there)) ?_ | refine .drop ?_)))

set_option maxRecDepth 8000 in
theorem rnext_t (bc b : Nat) (s : MemS) (mx v : Nat) (dead : Bool) (hl : 10 ≤ s.bs.length) (hm : s.bs.length ≤ 4096) (hx : mx < 4294967296) : Tri Try.prog 19 #[.pointer (some ⟨bc, 0, none⟩)] [rcellB bc b mx v dead, refP b s] (nextR (refP b) (rcellB bc b mx) (s.next mx v dead)) := by
  refine tri_of Try.call19 Try.func19 rfl fun B F => ?_
  refine gc_open (refM b s) (.there .here) (fun _ h => h) (fun bsl => ?_)
  refine gc_seq ?_
  refine gc_region ?_
  refine g_ev (e_as) ?_
  refine g_ev (e_as) ?_
  refine g_nil ?_
  refine gc_seq ?_
  refine gc_seq ?_
  refine gc_region ?_
  refine g_ev (e_mv) ?_
  refine g_ev (e_nc rfl) ?_
  refine g_ev (e_fa Try.underlying51 rfl rfl Try.sizeOf4) ?_
  refine g_ev (e_ld Try.underlying4 rfl (by repeat ((conv => arg 2; whnf); first | with_reducible exact .here | ((with_reducible refine Del.hereC ?_); rfl) | ((with_reducible refine Del.hereS ?_ ?_ ?_) <;> rfl) | exact .here | apply Del.there)) rfl) ?_
  refine g_ev (e_mv) ?_
  first | refine g_dec 10 rfl (fun c10 => ?_) (fun c10 => ?_) | refine g_ndec 10 rfl (fun c10 => ?_) (fun c10 => ?_) | refine g_bool 10 rfl (fun c10 => ?_) (fun c10 => ?_)
  · skip
    refine g_not ?_
    refine g_not ?_
    refine g_not ?_
    refine g_not ?_
    refine g_not ?_
    refine g_not ?_
    refine g_not ?_
    refine g_ev (e_pk rfl) ?_
    refine g_nil ?_
    refine gc_true ?_
    refine gc_seq ?_
    refine gc_region ?_
    refine g_ev (e_as) ?_
    refine g_ev (e_as) ?_
    refine g_nil ?_
    refine gc_ret ?_
    exact ret2 (L1 := [rcellB bc b mx v dead, refP b s]) rfl (by (conv => lhs; whnf); try rfl) (by (conv => lhs; whnf); try rfl) (by unfold nextR MemS.next; rw [if_pos (.inl c10)]; exact ⟨rfl, rfl⟩) (fun _ h => h.fin (.cons (by repeat ((conv => arg 2; whnf); first | with_reducible exact .here | ((with_reducible refine Del.hereC ?_); rfl) | ((with_reducible refine Del.hereS ?_ ?_ ?_) <;> rfl) | exact .here | apply Del.there)) (.fold (M := refM b s _) (fun _ h => ⟨_, h⟩) (by repeat ((conv => arg 1; whnf); (conv => arg 2; whnf); first | with_reducible exact .done | exact Fin.all _ | refine .cons (by repeat ((conv => arg 2; whnf); first | with_reducible exact .here | ((with_reducible refine Del.hereC ?_); rfl) | ((with_reducible refine Del.hereS ?_ ?_ ?_) <;> rfl) | exact .here | apply Del.there)) ?_ | refine .drop ?_)))))
  · skip
    refine g_ev (e_mv) ?_
    refine g_ev (e_nc rfl) ?_
    refine g_ev (e_fa Try.underlying51 rfl rfl Try.sizeOf37) ?_
    refine g_ev (e_ld Try.underlying37 rfl (by repeat ((conv => arg 2; whnf); first | with_reducible exact .here | ((with_reducible refine Del.hereC ?_); rfl) | ((with_reducible refine Del.hereS ?_ ?_ ?_) <;> rfl) | exact .here | apply Del.there)) rfl) ?_
    refine g_ev (e_nc rfl) ?_
    refine g_ev (e_fa Try.underlying47 rfl rfl Try.sizeOf4) ?_
    refine g_ev (e_ld Try.underlying4 rfl (by repeat ((conv => arg 2; whnf); first | with_reducible exact .here | ((with_reducible refine Del.hereC ?_); rfl) | ((with_reducible refine Del.hereS ?_ ?_ ?_) <;> rfl) | exact .here | apply Del.there)) rfl) ?_
    refine g_ev (e_pk rfl) ?_
    refine g_nil ?_
    first | refine gc_dec rfl (fun c18 => ?_) (fun c18 => ?_) | refine gc_ndec rfl (fun c18 => ?_) (fun c18 => ?_) | refine gc_cond rfl (fun c18 => ?_) (fun c18 => ?_)
    · skip
      refine gc_seq ?_
      refine gc_region ?_
      refine g_ev (e_as) ?_
      refine g_ev (e_as) ?_
      refine g_nil ?_
      refine gc_ret ?_
      exact ret2 (L1 := [rcellB bc b mx v dead, refP b s]) rfl (by (conv => lhs; whnf); try rfl) (by (conv => lhs; whnf); try rfl) (by unfold nextR MemS.next; rw [if_pos (.inr c18)]; exact ⟨rfl, rfl⟩) (fun _ h => h.fin (.cons (by repeat ((conv => arg 2; whnf); first | with_reducible exact .here | ((with_reducible refine Del.hereC ?_); rfl) | ((with_reducible refine Del.hereS ?_ ?_ ?_) <;> rfl) | exact .here | apply Del.there)) (.fold (M := refM b s _) (fun _ h => ⟨_, h⟩) (by repeat ((conv => arg 1; whnf); (conv => arg 2; whnf); first | with_reducible exact .done | exact Fin.all _ | refine .cons (by repeat ((conv => arg 2; whnf); first | with_reducible exact .here | ((with_reducible refine Del.hereC ?_); rfl) | ((with_reducible refine Del.hereS ?_ ?_ ?_) <;> rfl) | exact .here | apply Del.there)) ?_ | refine .drop ?_)))))
    · skip
      refine gc_skip ?_
      refine gc_seq ?_
      refine gc_seq ?_
      refine gc_draw (D := []) (fin := none) (plan := [(true, 0), (true, 1), (true, 2), (true, 3), (true, 4), (true, 5), (true, 6), (true, 7), (true, 8)]) rfl (by kernel_rfl) (by kernel_rfl) rfl .nil ?_
      refine gp_ev rfl (e_mv) ?_
      refine gp_ev rfl (e_nc rfl) ?_
      refine gp_ev rfl (e_fa Try.underlying51 rfl rfl Try.sizeOf35) ?_
      refine gp_ev rfl (e_ld Try.underlying35 rfl (by repeat ((conv => arg 2; whnf); first | with_reducible exact .here | ((with_reducible refine Del.hereC ?_); rfl) | ((with_reducible refine Del.hereS ?_ ?_ ?_) <;> rfl) | exact .here | apply Del.there)) rfl) ?_
      refine gp_ev rfl (e_mv) ?_
      refine gp_ev rfl (e_nc rfl) ?_
      refine gp_ev rfl (e_fa Try.underlying51 rfl rfl Try.sizeOf35) ?_
      refine gp_ev rfl (e_ld Try.underlying35 rfl (by repeat ((conv => arg 2; whnf); first | with_reducible exact .here | ((with_reducible refine Del.hereC ?_); rfl) | ((with_reducible refine Del.hereS ?_ ?_ ?_) <;> rfl) | exact .here | apply Del.there)) rfl) ?_
      refine gp_ev rfl (e_ge rfl rfl) ?_
      refine gp_nil ?_
      first | refine gc_dec rfl (fun c27 => ?_) (fun c27 => ?_) | refine gc_ndec rfl (fun c27 => ?_) (fun c27 => ?_) | refine gc_cond rfl (fun c27 => ?_) (fun c27 => ?_)
      · skip
        refine gc_seq ?_
        refine gc_region ?_
        refine g_ev (e_as) ?_
        refine g_ev (e_as) ?_
        refine g_nil ?_
        refine gc_ret ?_
        exact ret2 (L1 := [rcellB bc b mx v dead, refP b s]) rfl (by (conv => lhs; whnf); try rfl) (by (conv => lhs; whnf); try rfl) (by unfold nextR MemS.next; rw [if_neg (by simp [c10, c18]), if_pos (by omega)]; exact ⟨rfl, rfl⟩) (fun _ h => h.fin (.cons (by repeat ((conv => arg 2; whnf); first | with_reducible exact .here | ((with_reducible refine Del.hereC ?_); rfl) | ((with_reducible refine Del.hereS ?_ ?_ ?_) <;> rfl) | exact .here | apply Del.there)) (.fold (M := refM b s _) (fun _ h => ⟨_, h⟩) (by repeat ((conv => arg 1; whnf); (conv => arg 2; whnf); first | with_reducible exact .done | exact Fin.all _ | refine .cons (by repeat ((conv => arg 2; whnf); first | with_reducible exact .here | ((with_reducible refine Del.hereC ?_); rfl) | ((with_reducible refine Del.hereS ?_ ?_ ?_) <;> rfl) | exact .here | apply Del.there)) ?_ | refine .drop ?_)))))
      · skip
        refine gc_skip ?_
        refine gc_seq ?_
        refine gc_region ?_
        refine g_fin (L1 := [rcellB bc b mx v dead, refP b s]) (F := F) (.cons (by repeat ((conv => arg 2; whnf); first | with_reducible exact .here | ((with_reducible refine Del.hereC ?_); rfl) | ((with_reducible refine Del.hereS ?_ ?_ ?_) <;> rfl) | exact .here | apply Del.there)) (.fold (M := refM b s _) (fun _ h => ⟨_, h⟩) (by repeat ((conv => arg 1; whnf); (conv => arg 2; whnf); first | with_reducible exact .done | exact Fin.all _ | refine .cons (by repeat ((conv => arg 2; whnf); first | with_reducible exact .here | ((with_reducible refine Del.hereC ?_); rfl) | ((with_reducible refine Del.hereS ?_ ?_ ?_) <;> rfl) | exact .here | apply Del.there)) ?_ | refine .drop ?_)))) ?_
        refine g_ev (e_as) ?_
        refine g_nil ?_
        refine gc_seq ?_
        refine gc_seq ?_
        refine gc_draw (D := [refP b s]) (fin := none) (plan := [(true, 0), (true, 1), (true, 2), (true, 3), (false, 4), (true, 5), (true, 6), (true, 7), (true, 8), (true, 9), (false, 10), (true, 11), (true, 12), (true, 13), (true, 14), (true, 15), (true, 16), (true, 18), (true, 19), (true, 20), (true, 21), (false, 17), (false, 22), (true, 23), (true, 24), (true, 25)]) rfl (by kernel_rfl) (by kernel_rfl) rfl (.cons (by repeat ((conv => arg 2; whnf); first | with_reducible exact .here | ((with_reducible refine Del.hereC ?_); rfl) | ((with_reducible refine Del.hereS ?_ ?_ ?_) <;> rfl) | exact .here | apply Del.there)) .nil) ?_
        refine gp_ev rfl (e_mv) ?_
        refine gp_ev rfl (e_nc rfl) ?_
        refine gp_ev rfl (e_fa Try.underlying51 rfl rfl Try.sizeOf37) ?_
        refine gp_ev rfl (e_ld Try.underlying37 rfl (by repeat ((conv => arg 2; whnf); first | with_reducible exact .here | ((with_reducible refine Del.hereC ?_); rfl) | ((with_reducible refine Del.hereS ?_ ?_ ?_) <;> rfl) | exact .here | apply Del.there)) rfl) ?_
        refine gp_eff rfl (s_call (holds0 b s hl hm) (.cons (by repeat ((conv => arg 2; whnf); first | with_reducible exact .here | ((with_reducible refine Del.hereC ?_); rfl) | ((with_reducible refine Del.hereS ?_ ?_ ?_) <;> rfl) | exact .here | apply Del.there)) (.nil))) ?_
        rintro _ _ ⟨_, ⟨rfl, rfl⟩, rfl⟩
        refine gp_ev rfl (e_mv) ?_
        first | refine gp_dec 33 rfl (fun c33 => ?_) (fun c33 => ?_) | refine gp_ndec 33 rfl (fun c33 => ?_) (fun c33 => ?_) | refine gp_bool 33 rfl (fun c33 => ?_) (fun c33 => ?_)
        · skip
          refine gp_ev rfl (e_mv) ?_
          refine gp_ev rfl (e_nc rfl) ?_
          refine gp_ev rfl (e_fa Try.underlying51 rfl rfl Try.sizeOf37) ?_
          refine gp_ev rfl (e_ld Try.underlying37 rfl (by repeat ((conv => arg 2; whnf); first | with_reducible exact .here | ((with_reducible refine Del.hereC ?_); rfl) | ((with_reducible refine Del.hereS ?_ ?_ ?_) <;> rfl) | exact .here | apply Del.there)) rfl) ?_
          refine gp_eff rfl (s_call (holds1 b s hl hm) (.cons (by repeat ((conv => arg 2; whnf); first | with_reducible exact .here | ((with_reducible refine Del.hereC ?_); rfl) | ((with_reducible refine Del.hereS ?_ ?_ ?_) <;> rfl) | exact .here | apply Del.there)) (.nil))) ?_
          rintro _ _ ⟨_, ⟨rfl, rfl⟩, rfl⟩
          refine gp_ev rfl (e_not' rfl) ?_
          refine gp_ev rfl (e_mv) ?_
          first | refine gp_dec 40 rfl (fun c40 => ?_) (fun c40 => ?_) | refine gp_ndec 40 rfl (fun c40 => ?_) (fun c40 => ?_) | refine gp_bool 40 rfl (fun c40 => ?_) (fun c40 => ?_)
          · skip
            refine gp_not rfl ?_
            refine gp_not rfl ?_
            refine gp_not rfl ?_
            refine gp_not rfl ?_
            refine gp_not rfl ?_
            refine gp_not rfl ?_
            refine gp_not rfl ?_
            refine gp_not rfl ?_
            refine gp_notf rfl ?_
            refine gp_notf rfl ?_
            refine gp_not rfl ?_
            refine gp_ev rfl (e_pk rfl) ?_
            refine gp_ev rfl (e_pk rfl) ?_
            refine gp_nil ?_
            refine gc_true ?_
            refine gc_region ?_
            refine g_ev (e_as) ?_
            refine g_nil ?_
            refine gc_seq ?_
            refine gc_draw (D := [refP b s]) (fin := none) (plan := [(true, 0), (true, 1), (true, 2), (true, 3), (true, 4), (true, 5), (true, 6), (true, 7), (true, 8), (true, 9), (false, 10), (true, 11)]) rfl (by kernel_rfl) (by kernel_rfl) rfl (.cons (by repeat ((conv => arg 2; whnf); first | with_reducible exact .here | ((with_reducible refine Del.hereC ?_); rfl) | ((with_reducible refine Del.hereS ?_ ?_ ?_) <;> rfl) | exact .here | apply Del.there)) .nil) ?_
            refine gp_ev rfl (e_mv) ?_
            refine gp_ev rfl (e_nc rfl) ?_
            refine gp_ev rfl (e_fa Try.underlying51 rfl rfl Try.sizeOf37) ?_
            refine gp_ev rfl (e_ld Try.underlying37 rfl (by repeat ((conv => arg 2; whnf); first | with_reducible exact .here | ((with_reducible refine Del.hereC ?_); rfl) | ((with_reducible refine Del.hereS ?_ ?_ ?_) <;> rfl) | exact .here | apply Del.there)) rfl) ?_
            refine gp_ev rfl (e_mv) ?_
            refine gp_ev rfl (e_mv) ?_
            refine gp_ev rfl (e_nc rfl) ?_
            refine gp_ev rfl (e_fa Try.underlying51 rfl rfl Try.sizeOf35) ?_
            refine gp_ev rfl (e_ld Try.underlying35 rfl (by repeat ((conv => arg 2; whnf); first | with_reducible exact .here | ((with_reducible refine Del.hereC ?_); rfl) | ((with_reducible refine Del.hereS ?_ ?_ ?_) <;> rfl) | exact .here | apply Del.there)) rfl) ?_
            refine gp_ev rfl ((e_addw rfl rfl).to (v' := .int .u32 ((v + 1 : Nat) : Int)) (congrArg _ (wrapU (by omega) (by omega)))) ?_
            refine gp_eff rfl (s_call (rslot_t b s 1 (v + 1) (by decide)) (.cons (by repeat ((conv => arg 2; whnf); first | with_reducible exact .here | ((with_reducible refine Del.hereC ?_); rfl) | ((with_reducible refine Del.hereS ?_ ?_ ?_) <;> rfl) | exact .here | apply Del.there)) (.nil))) ?_
            rintro _ _ ⟨_, ⟨rfl, rfl⟩, rfl⟩
            refine gp_ev rfl (e_as) ?_
            refine gp_nil ?_
            refine gc_seq ?_
            refine gc_seq ?_
            refine gc_region ?_
            refine g_ev (e_mv) ?_
            refine g_ev (e_ne rfl rfl) ?_
            refine g_nil ?_
            first | refine gc_dec rfl (fun c66 => ?_) (fun c66 => ?_) | refine gc_ndec rfl (fun c66 => ?_) (fun c66 => ?_) | refine gc_cond rfl (fun c66 => ?_) (fun c66 => ?_)
            · skip
              refine gc_seq ?_
              refine gc_region ?_
              refine g_ev (e_mv) ?_
              refine g_ev (e_nc rfl) ?_
              refine g_ev (e_fa Try.underlying51 rfl rfl Try.sizeOf4) ?_
              refine g_eff (s_st Try.sizeOf4 rfl (by repeat ((conv => arg 3; whnf); first | with_reducible exact .here | apply Turn.there))) ?_
              rintro _ _ ⟨rfl, rfl⟩
              refine g_nil ?_
              refine gc_seq ?_
              refine gc_region ?_
              refine g_ev (e_as) ?_
              refine g_ev (e_as) ?_
              refine g_nil ?_
              refine gc_ret ?_
              have hfr : s.free = 1 := by unfold MemS.free; rw [if_pos ⟨by omega, .inl (by omega)⟩]
              exact ret2 (L1 := [rcellB bc b mx v true, refP b (s.slot 1 (v + 1)).2]) rfl (by (conv => lhs; whnf); try rfl) (by (conv => lhs; whnf); try rfl) (by unfold nextR MemS.next; rw [if_neg (by simp [c10, c18]), if_neg (by omega), hfr, if_neg c66]; exact ⟨rfl, rfl⟩) (fun _ h => h.fin (by repeat ((conv => arg 1; whnf); (conv => arg 2; whnf); first | with_reducible exact .done | exact Fin.all _ | refine .cons (by repeat ((conv => arg 2; whnf); first | with_reducible exact .here | ((with_reducible refine Del.hereC ?_); rfl) | ((with_reducible refine Del.hereS ?_ ?_ ?_) <;> rfl) | exact .here | apply Del.there)) ?_ | refine .drop ?_)))
            · skip
              refine gc_skip ?_
              refine gc_seq ?_
              refine gc_region ?_
              refine g_ev (e_mv) ?_
              refine g_ev (e_mv) ?_
              refine g_ev (e_nc rfl) ?_
              refine g_ev (e_fa Try.underlying51 rfl rfl Try.sizeOf35) ?_
              refine g_ev (e_ld Try.underlying35 rfl (by repeat ((conv => arg 2; whnf); first | with_reducible exact .here | ((with_reducible refine Del.hereC ?_); rfl) | ((with_reducible refine Del.hereS ?_ ?_ ?_) <;> rfl) | exact .here | apply Del.there)) rfl) ?_
              refine g_ev ((e_addw rfl rfl).to (v' := .int .u32 ((v + 1 : Nat) : Int)) (congrArg _ (wrapU (by omega) (by omega)))) ?_
              refine g_ev (e_nc rfl) ?_
              refine g_ev (e_fa Try.underlying51 rfl rfl Try.sizeOf35) ?_
              refine g_eff (s_st Try.sizeOf35 rfl (by repeat ((conv => arg 3; whnf); first | with_reducible exact .here | apply Turn.there))) ?_
              rintro _ _ ⟨rfl, rfl⟩
              refine g_nil ?_
              refine gc_seq ?_
              refine gc_region ?_
              refine g_ev (e_mv) ?_
              refine g_ev (e_nc rfl) ?_
              refine g_ev (e_fa Try.underlying51 rfl rfl Try.sizeOf35) ?_
              refine g_ev (e_ld Try.underlying35 rfl (by repeat ((conv => arg 2; whnf); first | with_reducible exact .here | ((with_reducible refine Del.hereC ?_); rfl) | ((with_reducible refine Del.hereS ?_ ?_ ?_) <;> rfl) | exact .here | apply Del.there)) rfl) ?_
              refine g_ev (e_as) ?_
              refine g_ev (e_as) ?_
              refine g_nil ?_
              refine gc_ret ?_
              have hfr : s.free = 1 := by unfold MemS.free; rw [if_pos ⟨by omega, .inl (by omega)⟩]
              exact ret2 (L1 := [rcellB bc b mx (v + 1) dead, refP b (s.slot 1 (v + 1)).2]) rfl (by (conv => lhs; whnf); try rfl) (by (conv => lhs; whnf); try rfl) (by unfold nextR MemS.next; rw [if_neg (by simp [c10, c18]), if_neg (by omega), hfr, if_pos c66]; exact ⟨rfl, rfl⟩) (fun _ h => h.fin (by repeat ((conv => arg 1; whnf); (conv => arg 2; whnf); first | with_reducible exact .done | exact Fin.all _ | refine .cons (by repeat ((conv => arg 2; whnf); first | with_reducible exact .here | ((with_reducible refine Del.hereC ?_); rfl) | ((with_reducible refine Del.hereS ?_ ?_ ?_) <;> rfl) | exact .here | apply Del.there)) ?_ | refine .drop ?_)))
          · skip
            refine gp_ev rfl (e_mv) ?_
            refine gp_ev rfl (e_nc rfl) ?_
            refine gp_ev rfl (e_fa Try.underlying51 rfl rfl Try.sizeOf37) ?_
            refine gp_ev rfl (e_ld Try.underlying37 rfl (by repeat ((conv => arg 2; whnf); first | with_reducible exact .here | ((with_reducible refine Del.hereC ?_); rfl) | ((with_reducible refine Del.hereS ?_ ?_ ?_) <;> rfl) | exact .here | apply Del.there)) rfl) ?_
            refine gp_ev rfl (e_mv) ?_
            refine gp_ev rfl (e_nc rfl) ?_
            refine gp_ev rfl (e_fa Try.underlying51 rfl rfl Try.sizeOf37) ?_
            refine gp_ev rfl (e_ld Try.underlying37 rfl (by repeat ((conv => arg 2; whnf); first | with_reducible exact .here | ((with_reducible refine Del.hereC ?_); rfl) | ((with_reducible refine Del.hereS ?_ ?_ ?_) <;> rfl) | exact .here | apply Del.there)) rfl) ?_
            refine gp_eff rfl (s_call (rword1 b s hl hm) (.cons (by repeat ((conv => arg 2; whnf); first | with_reducible exact .here | ((with_reducible refine Del.hereC ?_); rfl) | ((with_reducible refine Del.hereS ?_ ?_ ?_) <;> rfl) | exact .here | apply Del.there)) (.nil))) ?_
            rintro _ _ ⟨_, ⟨rfl, rfl⟩, rfl⟩
            refine gp_eff rfl (s_call (rword0 b s hl hm) (.cons (by repeat ((conv => arg 2; whnf); first | with_reducible exact .here | ((with_reducible refine Del.hereC ?_); rfl) | ((with_reducible refine Del.hereS ?_ ?_ ?_) <;> rfl) | exact .here | apply Del.there)) (.nil))) ?_
            rintro _ _ ⟨_, ⟨rfl, rfl⟩, rfl⟩
            refine gp_ev rfl (e_lt rfl rfl) ?_
            refine gp_ev rfl (e_pk rfl) ?_
            refine gp_ev rfl (e_pk rfl) ?_
            refine gp_nil ?_
            first | refine gc_dec rfl (fun c53 => ?_) (fun c53 => ?_) | refine gc_ndec rfl (fun c53 => ?_) (fun c53 => ?_) | refine gc_cond rfl (fun c53 => ?_) (fun c53 => ?_)
            · skip
              refine gc_region ?_
              refine g_ev (e_as) ?_
              refine g_nil ?_
              refine gc_seq ?_
              refine gc_draw (D := [refP b s]) (fin := none) (plan := [(true, 0), (true, 1), (true, 2), (true, 3), (true, 4), (true, 5), (true, 6), (true, 7), (true, 8), (true, 9), (false, 10), (true, 11)]) rfl (by kernel_rfl) (by kernel_rfl) rfl (.cons (by repeat ((conv => arg 2; whnf); first | with_reducible exact .here | ((with_reducible refine Del.hereC ?_); rfl) | ((with_reducible refine Del.hereS ?_ ?_ ?_) <;> rfl) | exact .here | apply Del.there)) .nil) ?_
              refine gp_ev rfl (e_mv) ?_
              refine gp_ev rfl (e_nc rfl) ?_
              refine gp_ev rfl (e_fa Try.underlying51 rfl rfl Try.sizeOf37) ?_
              refine gp_ev rfl (e_ld Try.underlying37 rfl (by repeat ((conv => arg 2; whnf); first | with_reducible exact .here | ((with_reducible refine Del.hereC ?_); rfl) | ((with_reducible refine Del.hereS ?_ ?_ ?_) <;> rfl) | exact .here | apply Del.there)) rfl) ?_
              refine gp_ev rfl (e_mv) ?_
              refine gp_ev rfl (e_mv) ?_
              refine gp_ev rfl (e_nc rfl) ?_
              refine gp_ev rfl (e_fa Try.underlying51 rfl rfl Try.sizeOf35) ?_
              refine gp_ev rfl (e_ld Try.underlying35 rfl (by repeat ((conv => arg 2; whnf); first | with_reducible exact .here | ((with_reducible refine Del.hereC ?_); rfl) | ((with_reducible refine Del.hereS ?_ ?_ ?_) <;> rfl) | exact .here | apply Del.there)) rfl) ?_
              refine gp_ev rfl ((e_addw rfl rfl).to (v' := .int .u32 ((v + 1 : Nat) : Int)) (congrArg _ (wrapU (by omega) (by omega)))) ?_
              refine gp_eff rfl (s_call (rslot_t b s 1 (v + 1) (by decide)) (.cons (by repeat ((conv => arg 2; whnf); first | with_reducible exact .here | ((with_reducible refine Del.hereC ?_); rfl) | ((with_reducible refine Del.hereS ?_ ?_ ?_) <;> rfl) | exact .here | apply Del.there)) (.nil))) ?_
              rintro _ _ ⟨_, ⟨rfl, rfl⟩, rfl⟩
              refine gp_ev rfl (e_as) ?_
              refine gp_nil ?_
              refine gc_seq ?_
              refine gc_seq ?_
              refine gc_region ?_
              refine g_ev (e_mv) ?_
              refine g_ev (e_ne rfl rfl) ?_
              refine g_nil ?_
              first | refine gc_dec rfl (fun c66 => ?_) (fun c66 => ?_) | refine gc_ndec rfl (fun c66 => ?_) (fun c66 => ?_) | refine gc_cond rfl (fun c66 => ?_) (fun c66 => ?_)
              · skip
                refine gc_seq ?_
                refine gc_region ?_
                refine g_ev (e_mv) ?_
                refine g_ev (e_nc rfl) ?_
                refine g_ev (e_fa Try.underlying51 rfl rfl Try.sizeOf4) ?_
                refine g_eff (s_st Try.sizeOf4 rfl (by repeat ((conv => arg 3; whnf); first | with_reducible exact .here | apply Turn.there))) ?_
                rintro _ _ ⟨rfl, rfl⟩
                refine g_nil ?_
                refine gc_seq ?_
                refine gc_region ?_
                refine g_ev (e_as) ?_
                refine g_ev (e_as) ?_
                refine g_nil ?_
                refine gc_ret ?_
                have hfr : s.free = 1 := by unfold MemS.free; rw [if_pos ⟨by omega, .inr (by omega)⟩]
                exact ret2 (L1 := [rcellB bc b mx v true, refP b (s.slot 1 (v + 1)).2]) rfl (by (conv => lhs; whnf); try rfl) (by (conv => lhs; whnf); try rfl) (by unfold nextR MemS.next; rw [if_neg (by simp [c10, c18]), if_neg (by omega), hfr, if_neg c66]; exact ⟨rfl, rfl⟩) (fun _ h => h.fin (by repeat ((conv => arg 1; whnf); (conv => arg 2; whnf); first | with_reducible exact .done | exact Fin.all _ | refine .cons (by repeat ((conv => arg 2; whnf); first | with_reducible exact .here | ((with_reducible refine Del.hereC ?_); rfl) | ((with_reducible refine Del.hereS ?_ ?_ ?_) <;> rfl) | exact .here | apply Del.there)) ?_ | refine .drop ?_)))
              · skip
                refine gc_skip ?_
                refine gc_seq ?_
                refine gc_region ?_
                refine g_ev (e_mv) ?_
                refine g_ev (e_mv) ?_
                refine g_ev (e_nc rfl) ?_
                refine g_ev (e_fa Try.underlying51 rfl rfl Try.sizeOf35) ?_
                refine g_ev (e_ld Try.underlying35 rfl (by repeat ((conv => arg 2; whnf); first | with_reducible exact .here | ((with_reducible refine Del.hereC ?_); rfl) | ((with_reducible refine Del.hereS ?_ ?_ ?_) <;> rfl) | exact .here | apply Del.there)) rfl) ?_
                refine g_ev ((e_addw rfl rfl).to (v' := .int .u32 ((v + 1 : Nat) : Int)) (congrArg _ (wrapU (by omega) (by omega)))) ?_
                refine g_ev (e_nc rfl) ?_
                refine g_ev (e_fa Try.underlying51 rfl rfl Try.sizeOf35) ?_
                refine g_eff (s_st Try.sizeOf35 rfl (by repeat ((conv => arg 3; whnf); first | with_reducible exact .here | apply Turn.there))) ?_
                rintro _ _ ⟨rfl, rfl⟩
                refine g_nil ?_
                refine gc_seq ?_
                refine gc_region ?_
                refine g_ev (e_mv) ?_
                refine g_ev (e_nc rfl) ?_
                refine g_ev (e_fa Try.underlying51 rfl rfl Try.sizeOf35) ?_
                refine g_ev (e_ld Try.underlying35 rfl (by repeat ((conv => arg 2; whnf); first | with_reducible exact .here | ((with_reducible refine Del.hereC ?_); rfl) | ((with_reducible refine Del.hereS ?_ ?_ ?_) <;> rfl) | exact .here | apply Del.there)) rfl) ?_
                refine g_ev (e_as) ?_
                refine g_ev (e_as) ?_
                refine g_nil ?_
                refine gc_ret ?_
                have hfr : s.free = 1 := by unfold MemS.free; rw [if_pos ⟨by omega, .inr (by omega)⟩]
                exact ret2 (L1 := [rcellB bc b mx (v + 1) dead, refP b (s.slot 1 (v + 1)).2]) rfl (by (conv => lhs; whnf); try rfl) (by (conv => lhs; whnf); try rfl) (by unfold nextR MemS.next; rw [if_neg (by simp [c10, c18]), if_neg (by omega), hfr, if_pos c66]; exact ⟨rfl, rfl⟩) (fun _ h => h.fin (by repeat ((conv => arg 1; whnf); (conv => arg 2; whnf); first | with_reducible exact .done | exact Fin.all _ | refine .cons (by repeat ((conv => arg 2; whnf); first | with_reducible exact .here | ((with_reducible refine Del.hereC ?_); rfl) | ((with_reducible refine Del.hereS ?_ ?_ ?_) <;> rfl) | exact .here | apply Del.there)) ?_ | refine .drop ?_)))
            · skip
              refine gc_skip ?_
              refine gc_seq ?_
              refine gc_draw (D := [refP b s]) (fin := none) (plan := [(true, 0), (true, 1), (true, 2), (true, 3), (true, 4), (true, 5), (true, 6), (true, 7), (true, 8), (true, 9), (false, 10), (true, 11)]) rfl (by kernel_rfl) (by kernel_rfl) rfl (.cons (by repeat ((conv => arg 2; whnf); first | with_reducible exact .here | ((with_reducible refine Del.hereC ?_); rfl) | ((with_reducible refine Del.hereS ?_ ?_ ?_) <;> rfl) | exact .here | apply Del.there)) .nil) ?_
              refine gp_ev rfl (e_mv) ?_
              refine gp_ev rfl (e_nc rfl) ?_
              refine gp_ev rfl (e_fa Try.underlying51 rfl rfl Try.sizeOf37) ?_
              refine gp_ev rfl (e_ld Try.underlying37 rfl (by repeat ((conv => arg 2; whnf); first | with_reducible exact .here | ((with_reducible refine Del.hereC ?_); rfl) | ((with_reducible refine Del.hereS ?_ ?_ ?_) <;> rfl) | exact .here | apply Del.there)) rfl) ?_
              refine gp_ev rfl (e_mv) ?_
              refine gp_ev rfl (e_mv) ?_
              refine gp_ev rfl (e_nc rfl) ?_
              refine gp_ev rfl (e_fa Try.underlying51 rfl rfl Try.sizeOf35) ?_
              refine gp_ev rfl (e_ld Try.underlying35 rfl (by repeat ((conv => arg 2; whnf); first | with_reducible exact .here | ((with_reducible refine Del.hereC ?_); rfl) | ((with_reducible refine Del.hereS ?_ ?_ ?_) <;> rfl) | exact .here | apply Del.there)) rfl) ?_
              refine gp_ev rfl ((e_addw rfl rfl).to (v' := .int .u32 ((v + 1 : Nat) : Int)) (congrArg _ (wrapU (by omega) (by omega)))) ?_
              refine gp_eff rfl (s_call (rslot_t b s 0 (v + 1) (by decide)) (.cons (by repeat ((conv => arg 2; whnf); first | with_reducible exact .here | ((with_reducible refine Del.hereC ?_); rfl) | ((with_reducible refine Del.hereS ?_ ?_ ?_) <;> rfl) | exact .here | apply Del.there)) (.nil))) ?_
              rintro _ _ ⟨_, ⟨rfl, rfl⟩, rfl⟩
              refine gp_ev rfl (e_as) ?_
              refine gp_nil ?_
              refine gc_seq ?_
              refine gc_seq ?_
              refine gc_region ?_
              refine g_ev (e_mv) ?_
              refine g_ev (e_ne rfl rfl) ?_
              refine g_nil ?_
              first | refine gc_dec rfl (fun c66 => ?_) (fun c66 => ?_) | refine gc_ndec rfl (fun c66 => ?_) (fun c66 => ?_) | refine gc_cond rfl (fun c66 => ?_) (fun c66 => ?_)
              · skip
                refine gc_seq ?_
                refine gc_region ?_
                refine g_ev (e_mv) ?_
                refine g_ev (e_nc rfl) ?_
                refine g_ev (e_fa Try.underlying51 rfl rfl Try.sizeOf4) ?_
                refine g_eff (s_st Try.sizeOf4 rfl (by repeat ((conv => arg 3; whnf); first | with_reducible exact .here | apply Turn.there))) ?_
                rintro _ _ ⟨rfl, rfl⟩
                refine g_nil ?_
                refine gc_seq ?_
                refine gc_region ?_
                refine g_ev (e_as) ?_
                refine g_ev (e_as) ?_
                refine g_nil ?_
                refine gc_ret ?_
                have hfr : s.free = 0 := by unfold MemS.free; rw [if_neg (by omega)]
                exact ret2 (L1 := [rcellB bc b mx v true, refP b (s.slot 0 (v + 1)).2]) rfl (by (conv => lhs; whnf); try rfl) (by (conv => lhs; whnf); try rfl) (by unfold nextR MemS.next; rw [if_neg (by simp [c10, c18]), if_neg (by omega), hfr, if_neg c66]; exact ⟨rfl, rfl⟩) (fun _ h => h.fin (by repeat ((conv => arg 1; whnf); (conv => arg 2; whnf); first | with_reducible exact .done | exact Fin.all _ | refine .cons (by repeat ((conv => arg 2; whnf); first | with_reducible exact .here | ((with_reducible refine Del.hereC ?_); rfl) | ((with_reducible refine Del.hereS ?_ ?_ ?_) <;> rfl) | exact .here | apply Del.there)) ?_ | refine .drop ?_)))
              · skip
                refine gc_skip ?_
                refine gc_seq ?_
                refine gc_region ?_
                refine g_ev (e_mv) ?_
                refine g_ev (e_mv) ?_
                refine g_ev (e_nc rfl) ?_
                refine g_ev (e_fa Try.underlying51 rfl rfl Try.sizeOf35) ?_
                refine g_ev (e_ld Try.underlying35 rfl (by repeat ((conv => arg 2; whnf); first | with_reducible exact .here | ((with_reducible refine Del.hereC ?_); rfl) | ((with_reducible refine Del.hereS ?_ ?_ ?_) <;> rfl) | exact .here | apply Del.there)) rfl) ?_
                refine g_ev ((e_addw rfl rfl).to (v' := .int .u32 ((v + 1 : Nat) : Int)) (congrArg _ (wrapU (by omega) (by omega)))) ?_
                refine g_ev (e_nc rfl) ?_
                refine g_ev (e_fa Try.underlying51 rfl rfl Try.sizeOf35) ?_
                refine g_eff (s_st Try.sizeOf35 rfl (by repeat ((conv => arg 3; whnf); first | with_reducible exact .here | apply Turn.there))) ?_
                rintro _ _ ⟨rfl, rfl⟩
                refine g_nil ?_
                refine gc_seq ?_
                refine gc_region ?_
                refine g_ev (e_mv) ?_
                refine g_ev (e_nc rfl) ?_
                refine g_ev (e_fa Try.underlying51 rfl rfl Try.sizeOf35) ?_
                refine g_ev (e_ld Try.underlying35 rfl (by repeat ((conv => arg 2; whnf); first | with_reducible exact .here | ((with_reducible refine Del.hereC ?_); rfl) | ((with_reducible refine Del.hereS ?_ ?_ ?_) <;> rfl) | exact .here | apply Del.there)) rfl) ?_
                refine g_ev (e_as) ?_
                refine g_ev (e_as) ?_
                refine g_nil ?_
                refine gc_ret ?_
                have hfr : s.free = 0 := by unfold MemS.free; rw [if_neg (by omega)]
                exact ret2 (L1 := [rcellB bc b mx (v + 1) dead, refP b (s.slot 0 (v + 1)).2]) rfl (by (conv => lhs; whnf); try rfl) (by (conv => lhs; whnf); try rfl) (by unfold nextR MemS.next; rw [if_neg (by simp [c10, c18]), if_neg (by omega), hfr, if_pos c66]; exact ⟨rfl, rfl⟩) (fun _ h => h.fin (by repeat ((conv => arg 1; whnf); (conv => arg 2; whnf); first | with_reducible exact .done | exact Fin.all _ | refine .cons (by repeat ((conv => arg 2; whnf); first | with_reducible exact .here | ((with_reducible refine Del.hereC ?_); rfl) | ((with_reducible refine Del.hereS ?_ ?_ ?_) <;> rfl) | exact .here | apply Del.there)) ?_ | refine .drop ?_)))
        · skip
          refine gp_not rfl ?_
          refine gp_not rfl ?_
          refine gp_not rfl ?_
          refine gp_not rfl ?_
          refine gp_notf rfl ?_
          refine gp_not rfl ?_
          refine gp_not rfl ?_
          refine gp_not rfl ?_
          refine gp_not rfl ?_
          refine gp_not rfl ?_
          refine gp_not rfl ?_
          refine gp_not rfl ?_
          refine gp_not rfl ?_
          refine gp_not rfl ?_
          refine gp_not rfl ?_
          refine gp_notf rfl ?_
          refine gp_notf rfl ?_
          refine gp_not rfl ?_
          refine gp_not rfl ?_
          refine gp_ev rfl (e_pk rfl) ?_
          refine gp_nil ?_
          refine gc_false ?_
          refine gc_skip ?_
          refine gc_seq ?_
          refine gc_draw (D := [refP b s]) (fin := none) (plan := [(true, 0), (true, 1), (true, 2), (true, 3), (true, 4), (true, 5), (true, 6), (true, 7), (true, 8), (true, 9), (false, 10), (true, 11)]) rfl (by kernel_rfl) (by kernel_rfl) rfl (.cons (by repeat ((conv => arg 2; whnf); first | with_reducible exact .here | ((with_reducible refine Del.hereC ?_); rfl) | ((with_reducible refine Del.hereS ?_ ?_ ?_) <;> rfl) | exact .here | apply Del.there)) .nil) ?_
          refine gp_ev rfl (e_mv) ?_
          refine gp_ev rfl (e_nc rfl) ?_
          refine gp_ev rfl (e_fa Try.underlying51 rfl rfl Try.sizeOf37) ?_
          refine gp_ev rfl (e_ld Try.underlying37 rfl (by repeat ((conv => arg 2; whnf); first | with_reducible exact .here | ((with_reducible refine Del.hereC ?_); rfl) | ((with_reducible refine Del.hereS ?_ ?_ ?_) <;> rfl) | exact .here | apply Del.there)) rfl) ?_
          refine gp_ev rfl (e_mv) ?_
          refine gp_ev rfl (e_mv) ?_
          refine gp_ev rfl (e_nc rfl) ?_
          refine gp_ev rfl (e_fa Try.underlying51 rfl rfl Try.sizeOf35) ?_
          refine gp_ev rfl (e_ld Try.underlying35 rfl (by repeat ((conv => arg 2; whnf); first | with_reducible exact .here | ((with_reducible refine Del.hereC ?_); rfl) | ((with_reducible refine Del.hereS ?_ ?_ ?_) <;> rfl) | exact .here | apply Del.there)) rfl) ?_
          refine gp_ev rfl ((e_addw rfl rfl).to (v' := .int .u32 ((v + 1 : Nat) : Int)) (congrArg _ (wrapU (by omega) (by omega)))) ?_
          refine gp_eff rfl (s_call (rslot_t b s 0 (v + 1) (by decide)) (.cons (by repeat ((conv => arg 2; whnf); first | with_reducible exact .here | ((with_reducible refine Del.hereC ?_); rfl) | ((with_reducible refine Del.hereS ?_ ?_ ?_) <;> rfl) | exact .here | apply Del.there)) (.nil))) ?_
          rintro _ _ ⟨_, ⟨rfl, rfl⟩, rfl⟩
          refine gp_ev rfl (e_as) ?_
          refine gp_nil ?_
          refine gc_seq ?_
          refine gc_seq ?_
          refine gc_region ?_
          refine g_ev (e_mv) ?_
          refine g_ev (e_ne rfl rfl) ?_
          refine g_nil ?_
          first | refine gc_dec rfl (fun c66 => ?_) (fun c66 => ?_) | refine gc_ndec rfl (fun c66 => ?_) (fun c66 => ?_) | refine gc_cond rfl (fun c66 => ?_) (fun c66 => ?_)
          · skip
            refine gc_seq ?_
            refine gc_region ?_
            refine g_ev (e_mv) ?_
            refine g_ev (e_nc rfl) ?_
            refine g_ev (e_fa Try.underlying51 rfl rfl Try.sizeOf4) ?_
            refine g_eff (s_st Try.sizeOf4 rfl (by repeat ((conv => arg 3; whnf); first | with_reducible exact .here | apply Turn.there))) ?_
            rintro _ _ ⟨rfl, rfl⟩
            refine g_nil ?_
            refine gc_seq ?_
            refine gc_region ?_
            refine g_ev (e_as) ?_
            refine g_ev (e_as) ?_
            refine g_nil ?_
            refine gc_ret ?_
            have hfr : s.free = 0 := by unfold MemS.free; rw [if_neg (by omega)]
            exact ret2 (L1 := [rcellB bc b mx v true, refP b (s.slot 0 (v + 1)).2]) rfl (by (conv => lhs; whnf); try rfl) (by (conv => lhs; whnf); try rfl) (by unfold nextR MemS.next; rw [if_neg (by simp [c10, c18]), if_neg (by omega), hfr, if_neg c66]; exact ⟨rfl, rfl⟩) (fun _ h => h.fin (by repeat ((conv => arg 1; whnf); (conv => arg 2; whnf); first | with_reducible exact .done | exact Fin.all _ | refine .cons (by repeat ((conv => arg 2; whnf); first | with_reducible exact .here | ((with_reducible refine Del.hereC ?_); rfl) | ((with_reducible refine Del.hereS ?_ ?_ ?_) <;> rfl) | exact .here | apply Del.there)) ?_ | refine .drop ?_)))
          · skip
            refine gc_skip ?_
            refine gc_seq ?_
            refine gc_region ?_
            refine g_ev (e_mv) ?_
            refine g_ev (e_mv) ?_
            refine g_ev (e_nc rfl) ?_
            refine g_ev (e_fa Try.underlying51 rfl rfl Try.sizeOf35) ?_
            refine g_ev (e_ld Try.underlying35 rfl (by repeat ((conv => arg 2; whnf); first | with_reducible exact .here | ((with_reducible refine Del.hereC ?_); rfl) | ((with_reducible refine Del.hereS ?_ ?_ ?_) <;> rfl) | exact .here | apply Del.there)) rfl) ?_
            refine g_ev ((e_addw rfl rfl).to (v' := .int .u32 ((v + 1 : Nat) : Int)) (congrArg _ (wrapU (by omega) (by omega)))) ?_
            refine g_ev (e_nc rfl) ?_
            refine g_ev (e_fa Try.underlying51 rfl rfl Try.sizeOf35) ?_
            refine g_eff (s_st Try.sizeOf35 rfl (by repeat ((conv => arg 3; whnf); first | with_reducible exact .here | apply Turn.there))) ?_
            rintro _ _ ⟨rfl, rfl⟩
            refine g_nil ?_
            refine gc_seq ?_
            refine gc_region ?_
            refine g_ev (e_mv) ?_
            refine g_ev (e_nc rfl) ?_
            refine g_ev (e_fa Try.underlying51 rfl rfl Try.sizeOf35) ?_
            refine g_ev (e_ld Try.underlying35 rfl (by repeat ((conv => arg 2; whnf); first | with_reducible exact .here | ((with_reducible refine Del.hereC ?_); rfl) | ((with_reducible refine Del.hereS ?_ ?_ ?_) <;> rfl) | exact .here | apply Del.there)) rfl) ?_
            refine g_ev (e_as) ?_
            refine g_ev (e_as) ?_
            refine g_nil ?_
            refine gc_ret ?_
            have hfr : s.free = 0 := by unfold MemS.free; rw [if_neg (by omega)]
            exact ret2 (L1 := [rcellB bc b mx (v + 1) dead, refP b (s.slot 0 (v + 1)).2]) rfl (by (conv => lhs; whnf); try rfl) (by (conv => lhs; whnf); try rfl) (by unfold nextR MemS.next; rw [if_neg (by simp [c10, c18]), if_neg (by omega), hfr, if_pos c66]; exact ⟨rfl, rfl⟩) (fun _ h => h.fin (by repeat ((conv => arg 1; whnf); (conv => arg 2; whnf); first | with_reducible exact .done | exact Fin.all _ | refine .cons (by repeat ((conv => arg 2; whnf); first | with_reducible exact .here | ((with_reducible refine Del.hereC ?_); rfl) | ((with_reducible refine Del.hereS ?_ ?_ ?_) <;> rfl) | exact .here | apply Del.there)) ?_ | refine .drop ?_)))


theorem write_by {s : MemS} {a j : Nat} {c : UInt8} (h : (s.write (a : Int) c).1 = 0) (hl : a < s.bs.length) (hj : j < s.bs.length) : (s.write (a : Int) c).2.by j = (if j = a then c.toNat else s.by j) := by
  unfold MemS.write at h ⊢
  split at h; · cases h
  split at h; · cases h
  split at h; · cases h
  rename_i h1 h2 h3
  rw [if_neg h1, if_neg h2, if_neg h3]
  simp only [MemS.by]
  rw [Int.toNat_natCast, List.getD_eq_getElem?_getD, List.getElem?_set]
  split
  · rename_i e; subst e; simp
  · rename_i e; rw [if_neg (fun h => e h.symm)]; simp
theorem wseq_by : ∀ (l : List (Int × UInt8)) (s : MemS) (j : Nat), (∀ p ∈ l, ∃ a : Nat, p.1 = a ∧ a < s.bs.length ∧ a ≠ j) → (wseq s l).1 = 0 → j < s.bs.length → (wseq s l).2.by j = s.by j
  | [], _, _, _, _, _ => rfl
  | (x, c) :: l, s, j, h, he, hj => by
    obtain ⟨a, ha, hl, hn⟩ := h (x, c) (List.mem_cons_self ..)
    replace ha : x = (a : Int) := ha
    subst ha
    by_cases h1 : (s.write (a : Int) c).1 = 0
    · rw [wseq_go h1] at he ⊢
      rw [wseq_by l _ j (fun p hp => by rw [MemS.write_len]; exact h p (List.mem_cons_of_mem _ hp)) he (by rw [MemS.write_len]; exact hj), write_by h1 hl hj, if_neg (fun e => hn e.symm)]
    · rw [wseq_stop h1] at he; exact absurd he h1
theorem wseq_append : ∀ (l m : List (Int × UInt8)) (s : MemS), wseq s (l ++ m) = if (wseq s l).1 = 0 then wseq (wseq s l).2 m else wseq s l
  | [], m, s => rfl
  | (a, c) :: l, m, s => by
    by_cases h : (s.write a c).1 = 0
    · rw [List.cons_append, wseq_go h, wseq_go h, wseq_append l m]
    · rw [List.cons_append, wseq_stop h, wseq_stop h, if_neg h]
theorem slot_marks {s : MemS} {k w : Nat} (hk : k ≤ 1) (hl : 10 ≤ s.bs.length) (h : (s.slot k w).1 = 0) : (s.slot k w).2.by (5 * k) = 165 ∧ (s.slot k w).2.by (5 * (1 - k)) = s.by (5 * (1 - k)) := by
  refine ⟨?_, ?_⟩
  · have e : slotW k w = (slotW k w).take 5 ++ [(((5 * k : Nat) : Int), 165)] := rfl
    unfold MemS.slot at h ⊢
    rw [e, wseq_append] at h ⊢
    split at h
    · rename_i h1
      rw [if_pos h1]
      rw [wseq_last] at h ⊢
      rw [write_by h (by rw [wseq_len]; omega) (by rw [wseq_len]; omega), if_pos rfl]
      rfl
    · rename_i h1; exact absurd h h1
  · refine wseq_by _ _ _ (fun p hp => ?_) h (by omega)
    simp only [slotW, List.mem_cons, List.not_mem_nil, or_false] at hp
    rcases hp with rfl | rfl | rfl | rfl | rfl | rfl <;> exact ⟨_, rfl, by omega, by omega⟩
theorem runO_fix {s : MemS} (hl : 10 ≤ s.bs.length) : runO s 2 = s.fix := by
  have h1 : runO s 1 = stepO s 0 := runO_next rfl
  have h2 : runO s 2 = if (stepO s 0).1 = 0 then stepO (stepO s 0).2 1 else stepO s 0 := by
    show (if (runO s 1).1 = 0 then stepO (runO s 1).2 1 else runO s 1) = _
    rw [h1]
  rw [h2]
  unfold MemS.fix MemS.fixW
  by_cases a : s.by 0 = 165
  · have e : stepO s 0 = (0, s) := if_pos a
    rw [e, if_pos rfl, if_pos a]
    by_cases c : s.by 5 = 165
    · rw [if_pos c]; exact if_pos c
    · rw [if_neg c]; exact (if_neg c).trans (if_pos a)
  · rw [if_neg a]
    by_cases c : s.by 5 = 165
    · rw [if_pos c]
      have e : stepO s 0 = s.slot 0 (s.word 1) := (if_neg a).trans (if_pos c)
      rw [e]
      split
      · rename_i h
        obtain ⟨m1, m2⟩ := slot_marks (k := 0) (by decide) hl h
        refine (if_pos (m2.trans c)).trans ?_
        exact Prod.ext h.symm rfl
      · rfl
    · rw [if_neg c]
      by_cases z : s.by 0 = 0
      · have e : stepO s 0 = (0, s) := (if_neg a).trans ((if_neg c).trans (if_pos z))
        rw [e, if_pos rfl, if_pos z, List.nil_append]
        refine (if_neg c).trans ((if_neg a).trans ?_)
        by_cases q : s.by 5 = 0
        · exact (if_pos q).trans (by rw [if_pos q]; rfl)
        · exact (if_neg q).trans (by rw [if_neg q, wseq_last]; rfl)
      · have e : stepO s 0 = s.write 0 0 := (if_neg a).trans ((if_neg c).trans (if_neg z))
        rw [e, if_neg z]
        by_cases h : (s.write 0 0).1 = 0
        · rw [if_pos h, List.singleton_append, wseq_go h]
          have m0 : (s.write 0 0).2.by 0 = 0 := (write_by (a := 0) h (by omega) (by omega)).trans (if_pos rfl)
          have m5 : (s.write 0 0).2.by 5 = s.by 5 := (write_by (a := 0) h (by omega) (by omega)).trans (if_neg (by decide))
          refine (if_neg (by rw [m5]; exact c)).trans ((if_neg (by rw [m0]; decide)).trans ?_)
          by_cases q : s.by 5 = 0
          · exact (if_pos (m5.trans q)).trans (by rw [if_pos q]; rfl)
          · exact (if_neg (by rw [m5]; exact q)).trans (by rw [if_neg q, wseq_last]; rfl)
        · rw [if_neg h, List.singleton_append, wseq_stop h]
theorem ropen_t (b : Nat) (s : MemS) (mx : Nat) (hm : s.bs.length ≤ 4096) : Tri Try.prog 14 #[.pointer (some ⟨b, 0, none⟩), .int .u32 (mx : Int)] [refP b s] (openR (s.open mx) (refP b) (fun bc => rcellB bc b mx s.val false)) := by
  unfold MemS.open
  by_cases h : mx = 0 ∨ s.bs.length < 10
  · rw [if_pos h]; exact ropen_range b s mx h
  · rw [if_neg h]
    by_cases ho : s.off = true
    · rw [if_pos ho]; exact ropen_off b s mx (by omega) (by omega) ho
    · rw [if_neg ho, ← runO_fix (by omega)]; exact ropen_on b s mx (by omega) (by omega) hm (by simpa using ho)

end Go.Proofs.Ytpknnbkdkmogeaa
