-- Functions and their contracts for this seat's laws: written by own_print.py (over the kit's print); Lean checks it.
import Derived.Test.YtodeiejmllbkiaaPAx0
import Derived.Test.YtodeiejmllbkiaaPAx3
import Derived.Test.YtodeiejmllbkiaaPAx5
import Derived.Test.YtodeiejmllbkiaaPAx26
namespace Go.Proofs.Ytodeiejmllbkiaa.PA
open Go.RowKit Go.Proofs.YtodeiejmllbkiaaW.PrintWords Go.Proofs.YtodeiejmllbkiaaW.PrintLast Go.Proofs.YtodeiejmllbkiaaW.PrintMore
attribute [local go_sem] max2_int min2_int max_two min_two max_three min_three max_four min_four   -- for this text's walks alone
set_option linter.unusedVariables false
set_option linter.unusedSimpArgs false

/-! ### impl_SegFar: function 24 -/
namespace SegFarB
theorem iPtOk_tells (x y : Int) : impl_PtOk.f x y = some (Geo.ok (x, y)) := by
  unfold impl_PtOk.f
  by_cases h1 : 0 ≤ x <;> by_cases h2 : x ≤ 9 <;> by_cases h3 : 0 ≤ y <;> simp [Geo.ok, h1, h2, h3]
theorem iSegOk_tells (a b c d : Int) : impl_SegOk.f a b c d = some (Geo.segOk (a, b) (c, d)) := by
  unfold impl_SegOk.f
  simp only [iPtOk_tells, Option.bind_some, Geo.pne]
  unfold Geo.segOk
  cases h1 : Geo.ok (a, b) <;> cases h2 : Geo.ok (c, d) <;> rfl
theorem iCross_tells {a b c d e f : Int} (h1 : Geo.ok (a, b) = true) (h2 : Geo.ok (c, d) = true) (h3 : Geo.ok (e, f) = true) : impl_cross.f a b c d e f = some (Geo.cross (a, b) (c, d) (e, f)) := by
  have hb := Geo.cross_bd h1 h2 h3
  rw [Geo.ok_iff] at h1 h2 h3
  have m1 := Geo.mul_bd (m := c - a) (n := f - b) (by omega) (by omega) (by omega) (by omega)
  have m2 := Geo.mul_bd (m := d - b) (n := e - a) (by omega) (by omega) (by omega) (by omega)
  unfold impl_cross.f
  unfold Geo.cross at hb ⊢
  simp only at h1 h2 h3 hb ⊢
  rw [Geo.w64 (n := c - a) (by omega) (by omega), Geo.w64 (n := f - b) (by omega) (by omega), Geo.w64 (n := d - b) (by omega) (by omega), Geo.w64 (n := e - a) (by omega) (by omega),
    Geo.w64 (n := (c - a) * (f - b)) (by omega) (by omega), Geo.w64 (n := (d - b) * (e - a)) (by omega) (by omega), Geo.w64 (by omega) (by omega)]
theorem iGcd_tells : ∀ (k : Nat) (a b : Nat), b < k → impl_commonDivisor.l0 k (a : Int) (b : Int) = some ((Nat.gcd a b : Nat) : Int) := by
  intro k
  induction k with
  | zero => intro a b h; omega
  | succ k ih =>
    intro a b h
    simp only [impl_commonDivisor.l0]
    by_cases hb : b = 0
    · subst hb; simp
    · rw [if_neg (by omega), ← Int.ofNat_tmod, ih b (a % b) (by have := Nat.mod_lt a (show 0 < b by omega); omega)]
      rw [Nat.gcd_comm b, ← Nat.gcd_rec, Nat.gcd_comm]
theorem iFracOf_tells (k : Nat) (n d : Int) (hk : 100000 ≤ k) : impl_FracOf.f k n d = some (Geo.fracOf n d) := by
  unfold impl_FracOf.f Geo.fracOf
  by_cases h1 : n < 0
  · rw [if_pos h1, if_neg (fun z => by omega)]
  by_cases h2 : n > 99999
  · rw [if_neg h1, if_pos h2, if_neg (fun z => by omega)]
  by_cases h3 : d < 1
  · rw [if_neg h1, if_neg h2, if_pos h3, if_neg (fun z => by omega)]
  by_cases h4 : d > 99999
  · rw [if_neg h1, if_neg h2, if_neg h3, if_pos h4, if_neg (fun z => by omega)]
  rw [if_neg h1, if_neg h2, if_neg h3, if_neg h4, if_pos ⟨by omega, by omega, by omega, by omega⟩]
  obtain ⟨n, rfl⟩ := Int.eq_ofNat_of_zero_le (show 0 ≤ n by omega)
  obtain ⟨d, rfl⟩ := Int.eq_ofNat_of_zero_le (show 0 ≤ d by omega)
  unfold impl_commonDivisor.f
  have hg := Nat.gcd_pos_of_pos_right n (show 0 < d by omega)
  simp only [iGcd_tells k n d (by omega), Option.bind_some]
  rw [if_neg (by omega)]
  have e1 : Int.tdiv (n : Int) ((Nat.gcd n d : Nat) : Int) = ((n / Nat.gcd n d : Nat) : Int) := by rw [Int.ofNat_tdiv]
  have e2 : Int.tdiv (d : Int) ((Nat.gcd n d : Nat) : Int) = ((d / Nat.gcd n d : Nat) : Int) := by rw [Int.ofNat_tdiv]
  have b1 := Nat.div_le_self n (Nat.gcd n d)
  have b2 := Nat.div_le_self d (Nat.gcd n d)
  rw [e1, e2, Geo.w64n (Nat.le_trans b1 (by omega)), Geo.w64n (Nat.le_trans b2 (by omega))]
  rfl
theorem along_tells {a b c d e f : Int} (h1 : Geo.ok (a, b) = true) (h2 : Geo.ok (c, d) = true) (h3 : Geo.ok (e, f) = true) : impl_along.f a b c d e f = some (Geo.dot (a, b) (c, d) (e, f)) := by
  have hb := Geo.dot_bd h1 h2 h3
  rw [Geo.ok_iff] at h1 h2 h3
  have m1 := Geo.mul_bd (m := c - a) (n := e - a) (by omega) (by omega) (by omega) (by omega)
  have m2 := Geo.mul_bd (m := d - b) (n := f - b) (by omega) (by omega) (by omega) (by omega)
  unfold impl_along.f
  unfold Geo.dot at hb ⊢
  simp only at h1 h2 h3 hb ⊢
  rw [Geo.w64 (n := c - a) (by omega) (by omega), Geo.w64 (n := f - b) (by omega) (by omega), Geo.w64 (n := d - b) (by omega) (by omega), Geo.w64 (n := e - a) (by omega) (by omega),
    Geo.w64 (n := (c - a) * (e - a)) (by omega) (by omega), Geo.w64 (n := (d - b) * (f - b)) (by omega) (by omega), Geo.w64 (by omega) (by omega)]
theorem between_tells {a b c d : Int} (h1 : Geo.ok (a, b) = true) (h2 : Geo.ok (c, d) = true) : impl_between.f a b c d = some (Geo.dot (a, b) (c, d) (c, d)) := by
  unfold impl_between.f; rw [along_tells h1 h2 h2]; rfl
theorem standOf_tells {a b c d e f : Int} (h1 : Geo.ok (a, b) = true) (h2 : Geo.ok (c, d) = true) (h3 : Geo.ok (e, f) = true) : impl_standOf.f a b c d e f = some (if Geo.dot (a, b) (c, d) (e, f) ≤ 0 then 0 else if Geo.dot (a, b) (c, d) (c, d) ≤ Geo.dot (a, b) (c, d) (e, f) then 2 else 1) := by
  unfold impl_standOf.f
  simp only [along_tells h1 h2 h3, between_tells h1 h2, Option.bind_some, ge_iff_le]
  split
  · rfl
  · split <;> rfl
end SegFarB
def impl_SegFar.f (a0_0 : Int) (a0_1 : Int) (a0_2 : Int) (a0_3 : Int) (a1_0 : Int) (a1_1 : Int) : Option (Int × Int) := some (Geo.far (a0_0, a0_1) (a0_2, a0_3) (a1_0, a1_1))
theorem impl_SegFar.c1 {sg pg : Nat} {a0 a1 a2 a3 b0 b1 t x y : Int} {b : Bool} (k : Nat) (w : World) (hs : Aside0 (w.heap[sg]? = some (.cells #[.int .i64 a0, .int .i64 a1, .int .i64 a2, .int .i64 a3] 29 (0, 0))))
    (hp : Aside0 (w.heap[pg]? = some (.cells #[.int .i64 b0, .int .i64 b1] 27 (0, 0)))) (h1 : Aside0 (impl_between.f a0 a1 b0 b1 = some t)) (h2 : Aside0 (impl_FracOf.f k t 1 = some (x, y, b))) :
    Calls Try.prog 43 #[.pointer (some ⟨sg, 0, none⟩), .pointer (some ⟨pg, 0, none⟩)] w fun e w' => e = .returned (.tuple #[.agg #[.int .i64 x, .int .i64 y], .bool b]) ∧ Below w.heap.size w w' := by
  have hu1 := Try.underlying29
  have hu2 := Try.underlying27
  have hu3 := Try.underlying42
  have k0 : (w.alloc (.cells #[.int .i64 0, .int .i64 0] 42)).cell? ⟨sg, 0, none⟩ = some (.int .i64 a0) := blk_cell (blk_alloc hs.out _) 0
  have k1 : (w.alloc (.cells #[.int .i64 0, .int .i64 0] 42)).cell? ⟨sg, 1, none⟩ = some (.int .i64 a1) := blk_cell (blk_alloc hs.out _) 1
  have k2 : (w.alloc (.cells #[.int .i64 0, .int .i64 0] 42)).cell? ⟨sg, 2, none⟩ = some (.int .i64 a2) := blk_cell (blk_alloc hs.out _) 2
  have k3 : (w.alloc (.cells #[.int .i64 0, .int .i64 0] 42)).cell? ⟨sg, 3, none⟩ = some (.int .i64 a3) := blk_cell (blk_alloc hs.out _) 3
  have k4 : (w.alloc (.cells #[.int .i64 0, .int .i64 0] 42)).cell? ⟨pg, 0, none⟩ = some (.int .i64 b0) := blk_cell (blk_alloc hp.out _) 0
  have k5 : (w.alloc (.cells #[.int .i64 0, .int .i64 0] 42)).cell? ⟨pg, 1, none⟩ = some (.int .i64 b1) := blk_cell (blk_alloc hp.out _) 1
  go_enter Try.func43, Try.ntmps43
  go_wp2_with fail
  refine (impl_between.calls _ _ _ _ _ _ h1.out).mono ?_
  rintro e w1 ⟨rfl, hb⟩
  have BK := Aside0.mk (blk_below (blk_new w (.cells #[.int .i64 0, .int .i64 0] 42)) hb)
  have HB := Aside0.mk ((below_alloc (Below.refl w.heap.size w) (.cells #[.int .i64 0, .int .i64 0] 42)).trans (hb.mono (by simp)))
  clear hb k0 k1 k2 k3 k4 k5 hs hp h1
  go_wp2_with fail
  refine (impl_FracOf.calls k _ _ _ _ _ _ h2.out).mono ?_
  rintro e w2 ⟨rfl, hb⟩
  replace BK := Aside0.mk (blk_below BK.out hb)
  replace HB := Aside0.mk (HB.out.trans (hb.mono HB.out.size))
  clear hb
  have z0 : w2.cell? ⟨w.heap.size, 0, none⟩ = some (.int .i64 0) := blk_cell BK.out 0
  have z1 : w2.cell? ⟨w.heap.size, 1, none⟩ = some (.int .i64 0) := blk_cell BK.out 1
  have f0 := blk_frozen BK.out 0
  have f1 := blk_frozen BK.out 1
  go_wp2
  refine bodyPost_ret (results_ct rfl _ _ w.heap.size 42 #[.int .i64 x, .int .i64 y] (0, 0) _ rfl (by refine blk_put (cs := #[.int .i64 x, .int .i64 0]) ?_ 1 _ rfl; refine blk_put (cs := #[.int .i64 0, .int .i64 0]) ?_ 0 _ rfl; exact BK.out) Try.underlying42 rfl (by kernel_rfl)) rfl ?_
  exact ⟨rfl, below_set (below_set HB.out (Nat.le_refl _)) (Nat.le_refl _)⟩
theorem impl_SegFar.c2 {sg pg : Nat} {a0 a1 a2 a3 b0 b1 t u x y : Int} {b : Bool} (k : Nat) (w : World) (hs : Aside0 (w.heap[sg]? = some (.cells #[.int .i64 a0, .int .i64 a1, .int .i64 a2, .int .i64 a3] 29 (0, 0))))
    (hp : Aside0 (w.heap[pg]? = some (.cells #[.int .i64 b0, .int .i64 b1] 27 (0, 0)))) (h0 : Aside0 (impl_cross.f a0 a1 a2 a3 b0 b1 = some u)) (h1 : Aside0 (impl_between.f a0 a1 a2 a3 = some t)) (h2 : Aside0 (impl_FracOf.f k (wrap64 (u * u)) t = some (x, y, b))) :
    Calls Try.prog 45 #[.pointer (some ⟨sg, 0, none⟩), .pointer (some ⟨pg, 0, none⟩)] w fun e w' => e = .returned (.tuple #[.agg #[.int .i64 x, .int .i64 y], .bool b]) ∧ Below w.heap.size w w' := by
  have hu1 := Try.underlying29
  have hu2 := Try.underlying27
  have hu3 := Try.underlying42
  have k0 : (w.alloc (.cells #[.int .i64 0, .int .i64 0] 42)).cell? ⟨sg, 0, none⟩ = some (.int .i64 a0) := blk_cell (blk_alloc hs.out _) 0
  have k1 : (w.alloc (.cells #[.int .i64 0, .int .i64 0] 42)).cell? ⟨sg, 1, none⟩ = some (.int .i64 a1) := blk_cell (blk_alloc hs.out _) 1
  have k2 : (w.alloc (.cells #[.int .i64 0, .int .i64 0] 42)).cell? ⟨sg, 2, none⟩ = some (.int .i64 a2) := blk_cell (blk_alloc hs.out _) 2
  have k3 : (w.alloc (.cells #[.int .i64 0, .int .i64 0] 42)).cell? ⟨sg, 3, none⟩ = some (.int .i64 a3) := blk_cell (blk_alloc hs.out _) 3
  have k4 : (w.alloc (.cells #[.int .i64 0, .int .i64 0] 42)).cell? ⟨pg, 0, none⟩ = some (.int .i64 b0) := blk_cell (blk_alloc hp.out _) 0
  have k5 : (w.alloc (.cells #[.int .i64 0, .int .i64 0] 42)).cell? ⟨pg, 1, none⟩ = some (.int .i64 b1) := blk_cell (blk_alloc hp.out _) 1
  go_enter Try.func45, Try.ntmps45
  go_wp2_with fail
  refine (impl_cross.calls _ _ _ _ _ _ _ _ h0.out).mono ?_
  rintro e w1 ⟨rfl, hb⟩
  have BK := Aside0.mk (blk_below (blk_new w (.cells #[.int .i64 0, .int .i64 0] 42)) hb)
  have HB := Aside0.mk ((below_alloc (Below.refl w.heap.size w) (.cells #[.int .i64 0, .int .i64 0] 42)).trans (hb.mono (by simp)))
  replace hs := Aside0.mk (blk_below (blk_alloc hs.out (.cells #[.int .i64 0, .int .i64 0] 42)) hb)
  clear hb k0 k1 k2 k3 k4 k5 hp h0
  have k0 : w1.cell? ⟨sg, 0, none⟩ = some (.int .i64 a0) := blk_cell hs.out 0
  have k1 : w1.cell? ⟨sg, 1, none⟩ = some (.int .i64 a1) := blk_cell hs.out 1
  have k2 : w1.cell? ⟨sg, 2, none⟩ = some (.int .i64 a2) := blk_cell hs.out 2
  have k3 : w1.cell? ⟨sg, 3, none⟩ = some (.int .i64 a3) := blk_cell hs.out 3
  go_wp2_with fail
  refine (impl_between.calls _ _ _ _ _ _ h1.out).mono ?_
  rintro e w3 ⟨rfl, hb⟩
  replace BK := Aside0.mk (blk_below BK.out hb)
  replace HB := Aside0.mk (HB.out.trans (hb.mono HB.out.size))
  clear hb k0 k1 k2 k3 hs h1
  go_wp2_with fail
  refine (impl_FracOf.calls k _ _ _ _ _ _ h2.out).mono ?_
  rintro e w2 ⟨rfl, hb⟩
  replace BK := Aside0.mk (blk_below BK.out hb)
  replace HB := Aside0.mk (HB.out.trans (hb.mono HB.out.size))
  clear hb
  have z0 : w2.cell? ⟨w.heap.size, 0, none⟩ = some (.int .i64 0) := blk_cell BK.out 0
  have z1 : w2.cell? ⟨w.heap.size, 1, none⟩ = some (.int .i64 0) := blk_cell BK.out 1
  have f0 := blk_frozen BK.out 0
  have f1 := blk_frozen BK.out 1
  go_wp2
  refine bodyPost_ret (results_ct rfl _ _ w.heap.size 42 #[.int .i64 x, .int .i64 y] (0, 0) _ rfl (by refine blk_put (cs := #[.int .i64 x, .int .i64 0]) ?_ 1 _ rfl; refine blk_put (cs := #[.int .i64 0, .int .i64 0]) ?_ 0 _ rfl; exact BK.out) Try.underlying42 rfl (by kernel_rfl)) rfl ?_
  exact ⟨rfl, below_set (below_set HB.out (Nat.le_refl _)) (Nat.le_refl _)⟩
theorem impl_SegFar.c3 {sg pg : Nat} {a0 a1 a2 a3 b0 b1 t x y : Int} {b : Bool} (k : Nat) (w : World) (hs : Aside0 (w.heap[sg]? = some (.cells #[.int .i64 a0, .int .i64 a1, .int .i64 a2, .int .i64 a3] 29 (0, 0))))
    (hp : Aside0 (w.heap[pg]? = some (.cells #[.int .i64 b0, .int .i64 b1] 27 (0, 0)))) (h1 : Aside0 (impl_between.f a2 a3 b0 b1 = some t)) (h2 : Aside0 (impl_FracOf.f k t 1 = some (x, y, b))) :
    Calls Try.prog 46 #[.pointer (some ⟨sg, 0, none⟩), .pointer (some ⟨pg, 0, none⟩)] w fun e w' => e = .returned (.tuple #[.agg #[.int .i64 x, .int .i64 y], .bool b]) ∧ Below w.heap.size w w' := by
  have hu1 := Try.underlying29
  have hu2 := Try.underlying27
  have hu3 := Try.underlying42
  have k0 : (w.alloc (.cells #[.int .i64 0, .int .i64 0] 42)).cell? ⟨sg, 0, none⟩ = some (.int .i64 a0) := blk_cell (blk_alloc hs.out _) 0
  have k1 : (w.alloc (.cells #[.int .i64 0, .int .i64 0] 42)).cell? ⟨sg, 1, none⟩ = some (.int .i64 a1) := blk_cell (blk_alloc hs.out _) 1
  have k2 : (w.alloc (.cells #[.int .i64 0, .int .i64 0] 42)).cell? ⟨sg, 2, none⟩ = some (.int .i64 a2) := blk_cell (blk_alloc hs.out _) 2
  have k3 : (w.alloc (.cells #[.int .i64 0, .int .i64 0] 42)).cell? ⟨sg, 3, none⟩ = some (.int .i64 a3) := blk_cell (blk_alloc hs.out _) 3
  have k4 : (w.alloc (.cells #[.int .i64 0, .int .i64 0] 42)).cell? ⟨pg, 0, none⟩ = some (.int .i64 b0) := blk_cell (blk_alloc hp.out _) 0
  have k5 : (w.alloc (.cells #[.int .i64 0, .int .i64 0] 42)).cell? ⟨pg, 1, none⟩ = some (.int .i64 b1) := blk_cell (blk_alloc hp.out _) 1
  go_enter Try.func46, Try.ntmps46
  go_wp2_with fail
  refine (impl_between.calls _ _ _ _ _ _ h1.out).mono ?_
  rintro e w1 ⟨rfl, hb⟩
  have BK := Aside0.mk (blk_below (blk_new w (.cells #[.int .i64 0, .int .i64 0] 42)) hb)
  have HB := Aside0.mk ((below_alloc (Below.refl w.heap.size w) (.cells #[.int .i64 0, .int .i64 0] 42)).trans (hb.mono (by simp)))
  clear hb k0 k1 k2 k3 k4 k5 hs hp h1
  go_wp2_with fail
  refine (impl_FracOf.calls k _ _ _ _ _ _ h2.out).mono ?_
  rintro e w2 ⟨rfl, hb⟩
  replace BK := Aside0.mk (blk_below BK.out hb)
  replace HB := Aside0.mk (HB.out.trans (hb.mono HB.out.size))
  clear hb
  have z0 : w2.cell? ⟨w.heap.size, 0, none⟩ = some (.int .i64 0) := blk_cell BK.out 0
  have z1 : w2.cell? ⟨w.heap.size, 1, none⟩ = some (.int .i64 0) := blk_cell BK.out 1
  have f0 := blk_frozen BK.out 0
  have f1 := blk_frozen BK.out 1
  go_wp2
  refine bodyPost_ret (results_ct rfl _ _ w.heap.size 42 #[.int .i64 x, .int .i64 y] (0, 0) _ rfl (by refine blk_put (cs := #[.int .i64 x, .int .i64 0]) ?_ 1 _ rfl; refine blk_put (cs := #[.int .i64 0, .int .i64 0]) ?_ 0 _ rfl; exact BK.out) Try.underlying42 rfl (by kernel_rfl)) rfl ?_
  exact ⟨rfl, below_set (below_set HB.out (Nat.le_refl _)) (Nat.le_refl _)⟩
theorem impl_SegFar.new1 (w : World) (a b : Obj) : ((w.alloc a).alloc b).heap[w.heap.size + 1]? = some b := by
  have := blk_new (w.alloc a) b; rwa [World.size_alloc] at this
theorem impl_SegFar.new2 (w : World) (a b c : Obj) : (((w.alloc a).alloc b).alloc c).heap[w.heap.size + 1 + 1]? = some c := by
  have := blk_new ((w.alloc a).alloc b) c; rwa [World.size_alloc, World.size_alloc] at this
theorem impl_SegFar.below3 {w w1 : World} {a b c : Obj} (hb : Below (((w.alloc a).alloc b).alloc c).heap.size (((w.alloc a).alloc b).alloc c) w1) : Below w.heap.size w w1 :=
  ((((Below.refl _ w).alloc (Nat.le_refl _) _).alloc (by simp) _).alloc (by simp; omega) _).trans (hb.mono (by simp; omega))
set_option maxHeartbeats 1000000 in
theorem impl_SegFar.calls (a0_0 : Int) (a0_1 : Int) (a0_2 : Int) (a0_3 : Int) (a1_0 : Int) (a1_1 : Int) (r1 : Int) (r2 : Int) (w : World) (h : impl_SegFar.f a0_0 a0_1 a0_2 a0_3 a1_0 a1_1 = some (r1, r2)) :
    Calls Try.prog 24 #[.agg #[.int .i64 a0_0, .int .i64 a0_1, .int .i64 a0_2, .int .i64 a0_3], .agg #[.int .i64 a1_0, .int .i64 a1_1]] w fun e w' => e = .returned (.agg #[.int .i64 r1, .int .i64 r2]) ∧ Below w.heap.size w w' := by
  have hu1 := Try.underlying29
  have hu2 := Try.underlying27
  have hu3 := Try.underlying42
  have hf : Geo.far (a0_0, a0_1) (a0_2, a0_3) (a1_0, a1_1) = (r1, r2) := Option.some.inj h
  clear h
  cases hs : Geo.segOk (a0_0, a0_1) (a0_2, a0_3) with
  | false =>
    have e0 : Geo.far (a0_0, a0_1) (a0_2, a0_3) (a1_0, a1_1) = (0, 0) := by unfold Geo.far; rw [hs]; rfl
    rw [e0] at hf
    obtain ⟨rfl, rfl⟩ := Prod.mk.inj hf
    have A1 := Aside0.mk ((SegFarB.iSegOk_tells a0_0 a0_1 a0_2 a0_3).trans (congrArg some hs))
    clear hf e0 hs
    go_enter Try.func24, Try.ntmps24
    go_wp2_with fail
    refine (impl_SegOk.calls _ _ _ _ _ _ A1.out).mono ?_
    rintro e w1 ⟨rfl, hb⟩
    have BR := Aside0.mk (blk_below (impl_SegFar.new2 w (.cells #[.int .i64 a0_0, .int .i64 a0_1, .int .i64 a0_2, .int .i64 a0_3] 29) (.cells #[.int .i64 a1_0, .int .i64 a1_1] 27) (.cells #[.int .i64 0, .int .i64 0] 42)) hb)
    have HB := Aside0.mk (impl_SegFar.below3 hb)
    clear hb
    have z0 : w1.cell? ⟨w.heap.size + 1 + 1, 0, none⟩ = some (.int .i64 0) := blk_cell BR.out 0
    have z1 : w1.cell? ⟨w.heap.size + 1 + 1, 1, none⟩ = some (.int .i64 0) := blk_cell BR.out 1
    have f0 := blk_frozen BR.out 0
    have f1 := blk_frozen BR.out 1
    go_wp2
    refine bodyPost_ret (results_cell_row rfl _ _ (w.heap.size + 1 + 1) 42 #[.int .i64 0, .int .i64 0] (0, 0) _ rfl (by refine blk_put (cs := #[.int .i64 0, .int .i64 0]) ?_ 1 _ rfl; refine blk_put (cs := #[.int .i64 0, .int .i64 0]) ?_ 0 _ rfl; exact BR.out) Try.underlying42 rfl (by kernel_rfl)) rfl ?_
    exact ⟨rfl, below_set (below_set HB.out (by show w.heap.size ≤ w.heap.size + 1 + 1; omega)) (by show w.heap.size ≤ w.heap.size + 1 + 1; omega)⟩
  | true =>
    have A1 := Aside0.mk ((SegFarB.iSegOk_tells a0_0 a0_1 a0_2 a0_3).trans (congrArg some hs))
    cases hp : Geo.ok (a1_0, a1_1) with
    | false =>
      have e0 : Geo.far (a0_0, a0_1) (a0_2, a0_3) (a1_0, a1_1) = (0, 0) := by unfold Geo.far; rw [hs, hp]; rfl
      rw [e0] at hf
      obtain ⟨rfl, rfl⟩ := Prod.mk.inj hf
      have A2 := Aside0.mk ((SegFarB.iPtOk_tells a1_0 a1_1).trans (congrArg some hp))
      clear hf e0 hs hp
      go_enter Try.func24, Try.ntmps24
      go_wp2_with fail
      refine (impl_SegOk.calls _ _ _ _ _ _ A1.out).mono ?_
      rintro e w1 ⟨rfl, hb⟩
      have BR := Aside0.mk (blk_below (impl_SegFar.new2 w (.cells #[.int .i64 a0_0, .int .i64 a0_1, .int .i64 a0_2, .int .i64 a0_3] 29) (.cells #[.int .i64 a1_0, .int .i64 a1_1] 27) (.cells #[.int .i64 0, .int .i64 0] 42)) hb)
      have BP := Aside0.mk (blk_below (blk_alloc (impl_SegFar.new1 w (.cells #[.int .i64 a0_0, .int .i64 a0_1, .int .i64 a0_2, .int .i64 a0_3] 29) (.cells #[.int .i64 a1_0, .int .i64 a1_1] 27)) (.cells #[.int .i64 0, .int .i64 0] 42)) hb)
      have HB := Aside0.mk (impl_SegFar.below3 hb)
      clear hb
      have p0 : w1.cell? ⟨w.heap.size + 1, 0, none⟩ = some (.int .i64 a1_0) := blk_cell BP.out 0
      have p1 : w1.cell? ⟨w.heap.size + 1, 1, none⟩ = some (.int .i64 a1_1) := blk_cell BP.out 1
      go_wp2_with fail
      refine (impl_PtOk.calls _ _ _ _ A2.out).mono ?_
      rintro e w2 ⟨rfl, hb⟩
      replace BR := Aside0.mk (blk_below BR.out hb)
      replace HB := Aside0.mk (HB.out.trans (hb.mono HB.out.size))
      clear hb BP p0 p1
      have z0 : w2.cell? ⟨w.heap.size + 1 + 1, 0, none⟩ = some (.int .i64 0) := blk_cell BR.out 0
      have z1 : w2.cell? ⟨w.heap.size + 1 + 1, 1, none⟩ = some (.int .i64 0) := blk_cell BR.out 1
      have f0 := blk_frozen BR.out 0
      have f1 := blk_frozen BR.out 1
      go_wp2
      refine bodyPost_ret (results_cell_row rfl _ _ (w.heap.size + 1 + 1) 42 #[.int .i64 0, .int .i64 0] (0, 0) _ rfl (by refine blk_put (cs := #[.int .i64 0, .int .i64 0]) ?_ 1 _ rfl; refine blk_put (cs := #[.int .i64 0, .int .i64 0]) ?_ 0 _ rfl; exact BR.out) Try.underlying42 rfl (by kernel_rfl)) rfl ?_
      exact ⟨rfl, below_set (below_set HB.out (by show w.heap.size ≤ w.heap.size + 1 + 1; omega)) (by show w.heap.size ≤ w.heap.size + 1 + 1; omega)⟩
    | true =>
      have A2 := Aside0.mk ((SegFarB.iPtOk_tells a1_0 a1_1).trans (congrArg some hp))
      obtain ⟨o1, o2, _⟩ := (Geo.segOk_iff _ _).1 hs
      have e0 : Geo.far (a0_0, a0_1) (a0_2, a0_3) (a1_0, a1_1) = Geo.far0 (a0_0, a0_1) (a0_2, a0_3) (a1_0, a1_1) := by unfold Geo.far; rw [hs, hp]; rfl
      rw [e0] at hf
      clear e0
      unfold Geo.far0 at hf
      have st := SegFarB.standOf_tells o1 o2 hp
      by_cases c1 : Geo.dot (a0_0, a0_1) (a0_2, a0_3) (a1_0, a1_1) ≤ 0
      · rw [if_pos c1] at hf st
        obtain ⟨rfl, rfl⟩ := Prod.mk.inj hf
        have A3 := Aside0.mk st
        have A4 := Aside0.mk (SegFarB.between_tells o1 hp)
        have A5 := Aside0.mk ((SegFarB.iFracOf_tells 100000 (Geo.dot (a0_0, a0_1) (a1_0, a1_1) (a1_0, a1_1)) 1 (Nat.le_refl _)).trans (congrArg some (Geo.fracOf_one (Geo.dot_self _ _) (by have := Geo.dot_bd9 o1 hp hp; omega))))
        clear hf st c1 hs hp o1 o2
        go_enter Try.func24, Try.ntmps24
        go_wp2_with fail
        refine (impl_SegOk.calls _ _ _ _ _ _ A1.out).mono ?_
        rintro e w1 ⟨rfl, hb⟩
        have BR := Aside0.mk (blk_below (impl_SegFar.new2 w (.cells #[.int .i64 a0_0, .int .i64 a0_1, .int .i64 a0_2, .int .i64 a0_3] 29) (.cells #[.int .i64 a1_0, .int .i64 a1_1] 27) (.cells #[.int .i64 0, .int .i64 0] 42)) hb)
        have BP := Aside0.mk (blk_below (blk_alloc (impl_SegFar.new1 w (.cells #[.int .i64 a0_0, .int .i64 a0_1, .int .i64 a0_2, .int .i64 a0_3] 29) (.cells #[.int .i64 a1_0, .int .i64 a1_1] 27)) (.cells #[.int .i64 0, .int .i64 0] 42)) hb)
        have BS := Aside0.mk (blk_below (blk_alloc (blk_alloc (blk_new w (.cells #[.int .i64 a0_0, .int .i64 a0_1, .int .i64 a0_2, .int .i64 a0_3] 29)) (.cells #[.int .i64 a1_0, .int .i64 a1_1] 27)) (.cells #[.int .i64 0, .int .i64 0] 42)) hb)
        have HB := Aside0.mk (impl_SegFar.below3 hb)
        clear hb
        have p0 : w1.cell? ⟨w.heap.size + 1, 0, none⟩ = some (.int .i64 a1_0) := blk_cell BP.out 0
        have p1 : w1.cell? ⟨w.heap.size + 1, 1, none⟩ = some (.int .i64 a1_1) := blk_cell BP.out 1
        go_wp2_with fail
        refine (impl_PtOk.calls _ _ _ _ A2.out).mono ?_
        rintro e w2 ⟨rfl, hb⟩
        replace BR := Aside0.mk (blk_below BR.out hb)
        replace BP := Aside0.mk (blk_below BP.out hb)
        replace BS := Aside0.mk (blk_below BS.out hb)
        replace HB := Aside0.mk (HB.out.trans (hb.mono HB.out.size))
        clear hb p0 p1
        have p0 : ∀ o, (w2.alloc o).cell? ⟨w.heap.size + 1, 0, none⟩ = some (.int .i64 a1_0) := fun o => blk_cell (blk_alloc BP.out o) 0
        have p1 : ∀ o, (w2.alloc o).cell? ⟨w.heap.size + 1, 1, none⟩ = some (.int .i64 a1_1) := fun o => blk_cell (blk_alloc BP.out o) 1
        have s0 : ∀ o, (w2.alloc o).cell? ⟨w.heap.size, 0, none⟩ = some (.int .i64 a0_0) := fun o => blk_cell (blk_alloc BS.out o) 0
        have s1 : ∀ o, (w2.alloc o).cell? ⟨w.heap.size, 1, none⟩ = some (.int .i64 a0_1) := fun o => blk_cell (blk_alloc BS.out o) 1
        have s2 : ∀ o, (w2.alloc o).cell? ⟨w.heap.size, 2, none⟩ = some (.int .i64 a0_2) := fun o => blk_cell (blk_alloc BS.out o) 2
        have s3 : ∀ o, (w2.alloc o).cell? ⟨w.heap.size, 3, none⟩ = some (.int .i64 a0_3) := fun o => blk_cell (blk_alloc BS.out o) 3
        go_wp2_with fail
        refine (impl_standOf.calls _ _ _ _ _ _ _ _ A3.out).mono ?_
        rintro e w3 ⟨rfl, hb⟩
        have BF := Aside0.mk (blk_below (blk_new w2 _) hb)
        replace BR := Aside0.mk (blk_below (blk_alloc BR.out _) hb)
        replace BP := Aside0.mk (blk_below (blk_alloc BP.out _) hb)
        replace BS := Aside0.mk (blk_below (blk_alloc BS.out _) hb)
        have HL := HB.out.size
        replace HB := Aside0.mk ((HB.out.alloc HB.out.size _).trans (hb.mono (by simp; omega)))
        clear hb p0 p1 s0 s1 s2 s3
        have q0 : w3.cell? ⟨w2.heap.size, 0, none⟩ = some (.func (.func 43) #[] #[.pointer (some ⟨w.heap.size, 0, none⟩), .pointer (some ⟨w.heap.size + 1, 0, none⟩)]) := (blk_cell BF.out 0).trans rfl
        go_wp2_with fail
        refine (impl_SegFar.c1 100000 _ BS BP A4 A5).mono ?_
        rintro e w4 ⟨rfl, hb⟩
        replace BR := Aside0.mk (blk_below BR.out hb)
        replace HB := Aside0.mk (HB.out.trans (hb.mono HB.out.size))
        clear hb q0 BF BP BS
        have z0 : ∀ o, (w4.alloc o).cell? ⟨w.heap.size + 1 + 1, 0, none⟩ = some (.int .i64 0) := fun o => blk_cell (blk_alloc BR.out o) 0
        have z1 : ∀ o, (w4.alloc o).cell? ⟨w.heap.size + 1 + 1, 1, none⟩ = some (.int .i64 0) := fun o => blk_cell (blk_alloc BR.out o) 1
        have f0 : ∀ o, (w4.alloc o).frozen? ⟨w.heap.size + 1 + 1, 0, none⟩ = false := fun o => blk_frozen (blk_alloc BR.out o) 0
        have f1 : ∀ o, (w4.alloc o).frozen? ⟨w.heap.size + 1 + 1, 1, none⟩ = false := fun o => blk_frozen (blk_alloc BR.out o) 1
        go_wp2
        refine bodyPost_ret (results_cell_row rfl _ _ (w.heap.size + 1 + 1) 42 #[.int .i64 (Geo.dot (a0_0, a0_1) (a1_0, a1_1) (a1_0, a1_1)), .int .i64 (1)] (0, 0) _ rfl (by refine blk_put (cs := #[.int .i64 (Geo.dot (a0_0, a0_1) (a1_0, a1_1) (a1_0, a1_1)), .int .i64 0]) ?_ 1 _ rfl; refine blk_put (cs := #[.int .i64 0, .int .i64 0]) ?_ 0 _ rfl; exact blk_alloc BR.out _) Try.underlying42 rfl (by kernel_rfl)) rfl ?_
        exact ⟨rfl, below_set (below_set (HB.out.alloc HB.out.size _) (by show w.heap.size ≤ w.heap.size + 1 + 1; omega)) (by show w.heap.size ≤ w.heap.size + 1 + 1; omega)⟩
      rw [if_neg c1] at hf st
      by_cases c2 : Geo.dot (a0_0, a0_1) (a0_2, a0_3) (a0_2, a0_3) ≤ Geo.dot (a0_0, a0_1) (a0_2, a0_3) (a1_0, a1_1)
      · rw [if_pos c2] at hf st
        obtain ⟨rfl, rfl⟩ := Prod.mk.inj hf
        have A3 := Aside0.mk st
        have A4 := Aside0.mk (SegFarB.between_tells o2 hp)
        have A5 := Aside0.mk ((SegFarB.iFracOf_tells 100000 (Geo.dot (a0_2, a0_3) (a1_0, a1_1) (a1_0, a1_1)) 1 (Nat.le_refl _)).trans (congrArg some (Geo.fracOf_one (Geo.dot_self _ _) (by have := Geo.dot_bd9 o2 hp hp; omega))))
        clear hf st c1 c2 hs hp o1 o2
        go_enter Try.func24, Try.ntmps24
        go_wp2_with fail
        refine (impl_SegOk.calls _ _ _ _ _ _ A1.out).mono ?_
        rintro e w1 ⟨rfl, hb⟩
        have BR := Aside0.mk (blk_below (impl_SegFar.new2 w (.cells #[.int .i64 a0_0, .int .i64 a0_1, .int .i64 a0_2, .int .i64 a0_3] 29) (.cells #[.int .i64 a1_0, .int .i64 a1_1] 27) (.cells #[.int .i64 0, .int .i64 0] 42)) hb)
        have BP := Aside0.mk (blk_below (blk_alloc (impl_SegFar.new1 w (.cells #[.int .i64 a0_0, .int .i64 a0_1, .int .i64 a0_2, .int .i64 a0_3] 29) (.cells #[.int .i64 a1_0, .int .i64 a1_1] 27)) (.cells #[.int .i64 0, .int .i64 0] 42)) hb)
        have BS := Aside0.mk (blk_below (blk_alloc (blk_alloc (blk_new w (.cells #[.int .i64 a0_0, .int .i64 a0_1, .int .i64 a0_2, .int .i64 a0_3] 29)) (.cells #[.int .i64 a1_0, .int .i64 a1_1] 27)) (.cells #[.int .i64 0, .int .i64 0] 42)) hb)
        have HB := Aside0.mk (impl_SegFar.below3 hb)
        clear hb
        have p0 : w1.cell? ⟨w.heap.size + 1, 0, none⟩ = some (.int .i64 a1_0) := blk_cell BP.out 0
        have p1 : w1.cell? ⟨w.heap.size + 1, 1, none⟩ = some (.int .i64 a1_1) := blk_cell BP.out 1
        go_wp2_with fail
        refine (impl_PtOk.calls _ _ _ _ A2.out).mono ?_
        rintro e w2 ⟨rfl, hb⟩
        replace BR := Aside0.mk (blk_below BR.out hb)
        replace BP := Aside0.mk (blk_below BP.out hb)
        replace BS := Aside0.mk (blk_below BS.out hb)
        replace HB := Aside0.mk (HB.out.trans (hb.mono HB.out.size))
        clear hb p0 p1
        have p0 : ∀ o, (w2.alloc o).cell? ⟨w.heap.size + 1, 0, none⟩ = some (.int .i64 a1_0) := fun o => blk_cell (blk_alloc BP.out o) 0
        have p1 : ∀ o, (w2.alloc o).cell? ⟨w.heap.size + 1, 1, none⟩ = some (.int .i64 a1_1) := fun o => blk_cell (blk_alloc BP.out o) 1
        have s0 : ∀ o, (w2.alloc o).cell? ⟨w.heap.size, 0, none⟩ = some (.int .i64 a0_0) := fun o => blk_cell (blk_alloc BS.out o) 0
        have s1 : ∀ o, (w2.alloc o).cell? ⟨w.heap.size, 1, none⟩ = some (.int .i64 a0_1) := fun o => blk_cell (blk_alloc BS.out o) 1
        have s2 : ∀ o, (w2.alloc o).cell? ⟨w.heap.size, 2, none⟩ = some (.int .i64 a0_2) := fun o => blk_cell (blk_alloc BS.out o) 2
        have s3 : ∀ o, (w2.alloc o).cell? ⟨w.heap.size, 3, none⟩ = some (.int .i64 a0_3) := fun o => blk_cell (blk_alloc BS.out o) 3
        go_wp2_with fail
        refine (impl_standOf.calls _ _ _ _ _ _ _ _ A3.out).mono ?_
        rintro e w3 ⟨rfl, hb⟩
        have BF := Aside0.mk (blk_below (blk_new w2 _) hb)
        replace BR := Aside0.mk (blk_below (blk_alloc BR.out _) hb)
        replace BP := Aside0.mk (blk_below (blk_alloc BP.out _) hb)
        replace BS := Aside0.mk (blk_below (blk_alloc BS.out _) hb)
        have HL := HB.out.size
        replace HB := Aside0.mk ((HB.out.alloc HB.out.size _).trans (hb.mono (by simp; omega)))
        clear hb p0 p1 s0 s1 s2 s3
        have q2 : w3.cell? ⟨w2.heap.size, 2, none⟩ = some (.func (.func 46) #[] #[.pointer (some ⟨w.heap.size, 0, none⟩), .pointer (some ⟨w.heap.size + 1, 0, none⟩)]) := (blk_cell BF.out 2).trans rfl
        go_wp2_with fail
        refine (impl_SegFar.c3 100000 _ BS BP A4 A5).mono ?_
        rintro e w4 ⟨rfl, hb⟩
        replace BR := Aside0.mk (blk_below BR.out hb)
        replace HB := Aside0.mk (HB.out.trans (hb.mono HB.out.size))
        clear hb q2 BF BP BS
        have z0 : ∀ o, (w4.alloc o).cell? ⟨w.heap.size + 1 + 1, 0, none⟩ = some (.int .i64 0) := fun o => blk_cell (blk_alloc BR.out o) 0
        have z1 : ∀ o, (w4.alloc o).cell? ⟨w.heap.size + 1 + 1, 1, none⟩ = some (.int .i64 0) := fun o => blk_cell (blk_alloc BR.out o) 1
        have f0 : ∀ o, (w4.alloc o).frozen? ⟨w.heap.size + 1 + 1, 0, none⟩ = false := fun o => blk_frozen (blk_alloc BR.out o) 0
        have f1 : ∀ o, (w4.alloc o).frozen? ⟨w.heap.size + 1 + 1, 1, none⟩ = false := fun o => blk_frozen (blk_alloc BR.out o) 1
        go_wp2
        refine bodyPost_ret (results_cell_row rfl _ _ (w.heap.size + 1 + 1) 42 #[.int .i64 (Geo.dot (a0_2, a0_3) (a1_0, a1_1) (a1_0, a1_1)), .int .i64 (1)] (0, 0) _ rfl (by refine blk_put (cs := #[.int .i64 (Geo.dot (a0_2, a0_3) (a1_0, a1_1) (a1_0, a1_1)), .int .i64 0]) ?_ 1 _ rfl; refine blk_put (cs := #[.int .i64 0, .int .i64 0]) ?_ 0 _ rfl; exact blk_alloc BR.out _) Try.underlying42 rfl (by kernel_rfl)) rfl ?_
        exact ⟨rfl, below_set (below_set (HB.out.alloc HB.out.size _) (by show w.heap.size ≤ w.heap.size + 1 + 1; omega)) (by show w.heap.size ≤ w.heap.size + 1 + 1; omega)⟩
      · rw [if_neg c2] at hf st
        obtain ⟨rfl, rfl⟩ := Prod.mk.inj hf
        have A3 := Aside0.mk st
        have A0 := Aside0.mk (SegFarB.iCross_tells o1 o2 hp)
        have A4 := Aside0.mk (SegFarB.between_tells o1 o2)
        have bc := Geo.cross_bd9 o1 o2 hp
        have bs := Geo.sq_bd bc.1 bc.2
        have bd := Geo.dot_bd9 o1 o2 o2
        have A5 : Aside0 (impl_FracOf.f 100000 (wrap64 (Geo.cross (a0_0, a0_1) (a0_2, a0_3) (a1_0, a1_1) * Geo.cross (a0_0, a0_1) (a0_2, a0_3) (a1_0, a1_1))) (Geo.dot (a0_0, a0_1) (a0_2, a0_3) (a0_2, a0_3)) = some (Geo.fracN (Geo.cross (a0_0, a0_1) (a0_2, a0_3) (a1_0, a1_1) * Geo.cross (a0_0, a0_1) (a0_2, a0_3) (a1_0, a1_1)) (Geo.dot (a0_0, a0_1) (a0_2, a0_3) (a0_2, a0_3)), Geo.fracD (Geo.cross (a0_0, a0_1) (a0_2, a0_3) (a1_0, a1_1) * Geo.cross (a0_0, a0_1) (a0_2, a0_3) (a1_0, a1_1)) (Geo.dot (a0_0, a0_1) (a0_2, a0_3) (a0_2, a0_3)), true)) := ⟨by rw [SegFarB.iFracOf_tells 100000 _ _ (Nat.le_refl _), Geo.w64 (by omega) (by omega), Geo.fracOf_mk bs.1 (by omega) (by omega) (by omega)]⟩
        clear hf st c1 c2 hs hp o1 o2 bc bs bd
        go_enter Try.func24, Try.ntmps24
        go_wp2_with fail
        refine (impl_SegOk.calls _ _ _ _ _ _ A1.out).mono ?_
        rintro e w1 ⟨rfl, hb⟩
        have BR := Aside0.mk (blk_below (impl_SegFar.new2 w (.cells #[.int .i64 a0_0, .int .i64 a0_1, .int .i64 a0_2, .int .i64 a0_3] 29) (.cells #[.int .i64 a1_0, .int .i64 a1_1] 27) (.cells #[.int .i64 0, .int .i64 0] 42)) hb)
        have BP := Aside0.mk (blk_below (blk_alloc (impl_SegFar.new1 w (.cells #[.int .i64 a0_0, .int .i64 a0_1, .int .i64 a0_2, .int .i64 a0_3] 29) (.cells #[.int .i64 a1_0, .int .i64 a1_1] 27)) (.cells #[.int .i64 0, .int .i64 0] 42)) hb)
        have BS := Aside0.mk (blk_below (blk_alloc (blk_alloc (blk_new w (.cells #[.int .i64 a0_0, .int .i64 a0_1, .int .i64 a0_2, .int .i64 a0_3] 29)) (.cells #[.int .i64 a1_0, .int .i64 a1_1] 27)) (.cells #[.int .i64 0, .int .i64 0] 42)) hb)
        have HB := Aside0.mk (impl_SegFar.below3 hb)
        clear hb
        have p0 : w1.cell? ⟨w.heap.size + 1, 0, none⟩ = some (.int .i64 a1_0) := blk_cell BP.out 0
        have p1 : w1.cell? ⟨w.heap.size + 1, 1, none⟩ = some (.int .i64 a1_1) := blk_cell BP.out 1
        go_wp2_with fail
        refine (impl_PtOk.calls _ _ _ _ A2.out).mono ?_
        rintro e w2 ⟨rfl, hb⟩
        replace BR := Aside0.mk (blk_below BR.out hb)
        replace BP := Aside0.mk (blk_below BP.out hb)
        replace BS := Aside0.mk (blk_below BS.out hb)
        replace HB := Aside0.mk (HB.out.trans (hb.mono HB.out.size))
        clear hb p0 p1
        have p0 : ∀ o, (w2.alloc o).cell? ⟨w.heap.size + 1, 0, none⟩ = some (.int .i64 a1_0) := fun o => blk_cell (blk_alloc BP.out o) 0
        have p1 : ∀ o, (w2.alloc o).cell? ⟨w.heap.size + 1, 1, none⟩ = some (.int .i64 a1_1) := fun o => blk_cell (blk_alloc BP.out o) 1
        have s0 : ∀ o, (w2.alloc o).cell? ⟨w.heap.size, 0, none⟩ = some (.int .i64 a0_0) := fun o => blk_cell (blk_alloc BS.out o) 0
        have s1 : ∀ o, (w2.alloc o).cell? ⟨w.heap.size, 1, none⟩ = some (.int .i64 a0_1) := fun o => blk_cell (blk_alloc BS.out o) 1
        have s2 : ∀ o, (w2.alloc o).cell? ⟨w.heap.size, 2, none⟩ = some (.int .i64 a0_2) := fun o => blk_cell (blk_alloc BS.out o) 2
        have s3 : ∀ o, (w2.alloc o).cell? ⟨w.heap.size, 3, none⟩ = some (.int .i64 a0_3) := fun o => blk_cell (blk_alloc BS.out o) 3
        go_wp2_with fail
        refine (impl_standOf.calls _ _ _ _ _ _ _ _ A3.out).mono ?_
        rintro e w3 ⟨rfl, hb⟩
        have BF := Aside0.mk (blk_below (blk_new w2 _) hb)
        replace BR := Aside0.mk (blk_below (blk_alloc BR.out _) hb)
        replace BP := Aside0.mk (blk_below (blk_alloc BP.out _) hb)
        replace BS := Aside0.mk (blk_below (blk_alloc BS.out _) hb)
        have HL := HB.out.size
        replace HB := Aside0.mk ((HB.out.alloc HB.out.size _).trans (hb.mono (by simp; omega)))
        clear hb p0 p1 s0 s1 s2 s3
        have q1 : w3.cell? ⟨w2.heap.size, 1, none⟩ = some (.func (.func 45) #[] #[.pointer (some ⟨w.heap.size, 0, none⟩), .pointer (some ⟨w.heap.size + 1, 0, none⟩)]) := (blk_cell BF.out 1).trans rfl
        go_wp2_with fail
        refine (impl_SegFar.c2 100000 _ BS BP A0 A4 A5).mono ?_
        rintro e w4 ⟨rfl, hb⟩
        replace BR := Aside0.mk (blk_below BR.out hb)
        replace HB := Aside0.mk (HB.out.trans (hb.mono HB.out.size))
        clear hb q1 BF BP BS
        have z0 : ∀ o, (w4.alloc o).cell? ⟨w.heap.size + 1 + 1, 0, none⟩ = some (.int .i64 0) := fun o => blk_cell (blk_alloc BR.out o) 0
        have z1 : ∀ o, (w4.alloc o).cell? ⟨w.heap.size + 1 + 1, 1, none⟩ = some (.int .i64 0) := fun o => blk_cell (blk_alloc BR.out o) 1
        have f0 : ∀ o, (w4.alloc o).frozen? ⟨w.heap.size + 1 + 1, 0, none⟩ = false := fun o => blk_frozen (blk_alloc BR.out o) 0
        have f1 : ∀ o, (w4.alloc o).frozen? ⟨w.heap.size + 1 + 1, 1, none⟩ = false := fun o => blk_frozen (blk_alloc BR.out o) 1
        go_wp2
        refine bodyPost_ret (results_cell_row rfl _ _ (w.heap.size + 1 + 1) 42 #[.int .i64 (Geo.fracN (Geo.cross (a0_0, a0_1) (a0_2, a0_3) (a1_0, a1_1) * Geo.cross (a0_0, a0_1) (a0_2, a0_3) (a1_0, a1_1)) (Geo.dot (a0_0, a0_1) (a0_2, a0_3) (a0_2, a0_3))), .int .i64 (Geo.fracD (Geo.cross (a0_0, a0_1) (a0_2, a0_3) (a1_0, a1_1) * Geo.cross (a0_0, a0_1) (a0_2, a0_3) (a1_0, a1_1)) (Geo.dot (a0_0, a0_1) (a0_2, a0_3) (a0_2, a0_3)))] (0, 0) _ rfl (by refine blk_put (cs := #[.int .i64 (Geo.fracN (Geo.cross (a0_0, a0_1) (a0_2, a0_3) (a1_0, a1_1) * Geo.cross (a0_0, a0_1) (a0_2, a0_3) (a1_0, a1_1)) (Geo.dot (a0_0, a0_1) (a0_2, a0_3) (a0_2, a0_3))), .int .i64 0]) ?_ 1 _ rfl; refine blk_put (cs := #[.int .i64 0, .int .i64 0]) ?_ 0 _ rfl; exact blk_alloc BR.out _) Try.underlying42 rfl (by kernel_rfl)) rfl ?_
        exact ⟨rfl, below_set (below_set (HB.out.alloc HB.out.size _) (by show w.heap.size ≤ w.heap.size + 1 + 1; omega)) (by show w.heap.size ≤ w.heap.size + 1 + 1; omega)⟩

end Go.Proofs.Ytodeiejmllbkiaa.PA
