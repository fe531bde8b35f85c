-- Functions and their contracts for this seat's laws: written by own_print.py (over the kit's print); Lean checks it.
import Derived.Test.YtddbahlofgkoaaaDoorPAx0
import Derived.Test.YtddbahlofgkoaaaDoorPAx11
namespace Go.Proofs.YtddbahlofgkoaaaDoor.PA
open Go.RowKit Go.Proofs.YtddbahlofgkoaaaDoorW.PrintWords Go.Proofs.YtddbahlofgkoaaaDoorW.PrintLast Go.Proofs.YtddbahlofgkoaaaDoorW.PrintMore
attribute [local go_sem] max2_int min2_int max_two min_two max_three min_three max_four min_four   -- for this text's walks alone
set_option linter.unusedVariables false
set_option linter.unusedSimpArgs false

/-! ### impl_between: function 109 -/
def impl_between.f (a0_0 : Int) (a0_1 : Int) (a1_0 : Int) (a1_1 : Int) : Option (Int) := (impl_along.f a0_0 a0_1 a1_0 a1_1 a1_0 a1_1).bind fun t167 => (some t167)
set_option maxHeartbeats 8000000 in
set_option maxRecDepth 100000 in
theorem impl_between.calls (a0_0 : Int) (a0_1 : Int) (a1_0 : Int) (a1_1 : Int) (r : Int) (w : World) (h : impl_between.f a0_0 a0_1 a1_0 a1_1 = some r) :
  Calls Tryd.prog 109 #[.agg #[.int .i64 a0_0, .int .i64 a0_1], .agg #[.int .i64 a1_0, .int .i64 a1_1]] w fun e w' => e = .returned (.int .i64 r) ∧ Below w.heap.size w w' := by
 have hu97 := Tryd.underlying97; have HB := Aside0.mk (Below.refl w.heap.size w); have H : ((impl_along.f a0_0 a0_1 a1_0 a1_1 a1_0 a1_1).bind fun t167 => (some t167)) = some r := h; clear h; replace H := Option.bind_eq_some_iff.mp H; obtain ⟨t167, A30, H⟩ := H; replace H : (some t167) = some r := H; have A3 := Aside0.mk A30; clear A30; obtain rfl := Option.some.inj H; go_enter Tryd.func109, Tryd.ntmps109
 go_wp2_with (first | ((with_reducible refine gate_dst (N := 2) rfl ?_); refine box_event ?hg (N := 2) ?hd (cs := #[.int .i64 a0_0, .int .i64 a0_1]) (t := 97) ?hr ?_; (case hd => rfl); (case hg => rfl); (case hr => first | (go_simp; done) | (go_simp; rfl)); intro gb165 hg w4 hbox hb; have n0_ := Aside0.mk (below_step (by repeat (first | (with_reducible first | exact HB.out | apply below_alloc | apply pw_below_drewN | apply below_drew1) | exact HB.out)) hb); have n1_ := Aside0.mk (hbox); have n2_ := Aside0.mk ((by rw [hg]; exact (below_size (by repeat (first | (with_reducible first | exact HB.out | apply below_alloc | apply pw_below_drewN | apply below_drew1) | exact HB.out))) : w.heap.size ≤ gb165)); have n3_ := Aside0.mk ((by rw [hg]; exact (below_size (by repeat (first | (with_reducible first | exact HB.out | apply below_alloc | apply pw_below_drewN | apply below_drew1) | exact HB.out))) : w.heap.size ≤ gb165)); clear HB; have HB := n0_; have BK165 := n1_; have GW165 := n2_; have GE165 := n3_; clear n0_ n1_ n2_ n3_; clear hb hbox hg) | ((with_reducible refine gate_dst (N := 3) rfl ?_); refine box_event ?hg (N := 3) ?hd (cs := #[.int .i64 a1_0, .int .i64 a1_1]) (t := 97) ?hr ?_; (case hd => rfl); (case hg => rfl); (case hr => first | (go_simp; done) | (go_simp; rfl)); intro gb166 hg w5 hbox hb; have n0_ := Aside0.mk (blk_below (g := gb165) (o := .cells #[.int .i64 a0_0, .int .i64 a0_1] 97 (0, 0)) (by (with_reducible repeat (first | refine blk_drewN ?_ _ | refine blk_drew ?_ | refine blk_alloc ?_ _)); exact BK165.out) hb); have n1_ := Aside0.mk (below_step (by repeat (first | (with_reducible first | exact HB.out | apply below_alloc | apply pw_below_drewN | apply below_drew1 | refine below_set ?_ GE165.out) | exact HB.out)) hb); have n2_ := Aside0.mk (hbox); have n3_ := Aside0.mk ((by rw [hg]; exact (below_size (by repeat (first | (with_reducible first | exact HB.out | apply below_alloc | apply pw_below_drewN | apply below_drew1 | refine below_set ?_ GE165.out) | exact HB.out))) : w.heap.size ≤ gb166)); have n4_ := Aside0.mk ((by rw [hg]; exact (below_size (by repeat (first | (with_reducible first | exact HB.out | apply below_alloc | apply pw_below_drewN | apply below_drew1 | refine below_set ?_ GE165.out) | exact HB.out))) : w.heap.size ≤ gb166)); have n5_ := Aside0.mk ((by rw [hg]; exact Nat.ne_of_lt (blk_lt (g := gb165) (o := .cells #[.int .i64 a0_0, .int .i64 a0_1] 97 (0, 0)) (by (with_reducible repeat (first | refine blk_drewN ?_ _ | refine blk_drew ?_ | refine blk_alloc ?_ _)); exact BK165.out)) : gb165 ≠ gb166)); have n6_ := Aside0.mk ((by rw [hg]; exact Nat.ne_of_gt (blk_lt (g := gb165) (o := .cells #[.int .i64 a0_0, .int .i64 a0_1] 97 (0, 0)) (by (with_reducible repeat (first | refine blk_drewN ?_ _ | refine blk_drew ?_ | refine blk_alloc ?_ _)); exact BK165.out)) : gb166 ≠ gb165)); clear BK165; clear HB; have BK165 := n0_; have HB := n1_; have BK166 := n2_; have GW166 := n3_; have GE166 := n4_; have NB165_166 := n5_; have NB166_165 := n6_; clear n0_ n1_ n2_ n3_ n4_ n5_ n6_; clear hb hbox hg; have hnb6 := NB165_166.out; have hnc6 := NB166_165.out; have hcz7_0 : w5.cell? ⟨gb165, 0, none⟩ = some (.int .i64 a0_0) := (blk_cell BK165.out 0).trans rfl; have hcz7_1 : w5.cell? ⟨gb165, 1, none⟩ = some (.int .i64 a0_1) := (blk_cell BK165.out 1).trans rfl; have hfz7_0 := blk_frozen BK165.out 0; have hfz7_1 := blk_frozen BK165.out 1; have hcz8_0 : w5.cell? ⟨gb166, 0, none⟩ = some (.int .i64 a1_0) := (blk_cell BK166.out 0).trans rfl; have hcz8_1 : w5.cell? ⟨gb166, 1, none⟩ = some (.int .i64 a1_1) := (blk_cell BK166.out 1).trans rfl; have hfz8_0 := blk_frozen BK166.out 0; have hfz8_1 := blk_frozen BK166.out 1) | ((with_reducible refine gate_callee (f := 108) rfl ?_); refine goesL_ (some 8) rfl rfl Tryd.func108 (by kernel_rfl) rfl #[.agg #[.int .i64 a0_0, .int .i64 a0_1], .agg #[.int .i64 a1_0, .int .i64 a1_1], .agg #[.int .i64 a1_0, .int .i64 a1_1]] rfl (by (try simp only [List.map_toArray, List.map_cons, List.map_nil]); first | done | rfl | (simp only [List.length_drop, List.length_take]; rfl)) ?_; (with_reducible refine (impl_along.calls a0_0 a0_1 a1_0 a1_1 a1_0 a1_1 t167 _ A3.out).mono ?_); rintro e w9 ⟨rfl, hb⟩; refine ⟨_, rfl, ?_⟩; have n0_ := Aside0.mk (blk_below (g := gb165) (o := .cells #[.int .i64 a0_0, .int .i64 a0_1] 97 (0, 0)) (by (with_reducible repeat (first | refine blk_drewN ?_ _ | refine blk_drew ?_ | refine blk_alloc ?_ _)); exact BK165.out) hb); have n1_ := Aside0.mk (blk_below (g := gb166) (o := .cells #[.int .i64 a1_0, .int .i64 a1_1] 97 (0, 0)) (by (with_reducible repeat (first | refine blk_drewN ?_ _ | refine blk_drew ?_ | refine blk_alloc ?_ _)); exact BK166.out) hb); have n2_ := Aside0.mk (below_step (by repeat (first | (with_reducible first | exact HB.out | apply below_alloc | apply pw_below_drewN | apply below_drew1 | refine below_set ?_ GE165.out | refine below_set ?_ GE166.out) | exact HB.out)) hb); clear BK165; clear BK166; clear HB; have BK165 := n0_; have BK166 := n1_; have HB := n2_; clear n0_ n1_ n2_; (try clear hb); (try clear hb2); (try clear hk); (try clear hi)))
 go_ret
 exact ⟨by first | rfl | (simp [errW_none, errW_some] <;> rfl) | (simp [*, errW_none, errW_some] <;> rfl), by repeat (first | (with_reducible first | exact HB.out | apply below_alloc | apply pw_below_drewN | apply below_drew1 | refine below_set ?_ GE165.out | refine below_set ?_ GE166.out) | exact HB.out)⟩

/-! ### impl_pointText: function 78 -/
section
open Go.Shelf
def dec_ (n : Int) : ByteArray := ⟨(Lib.decDigits n.toNat).toArray⟩
theorem dec_len (n : Nat) (h : n < 100) : (Lib.decDigits n).length ≤ 2 := by
  by_cases h1 : n < 10
  · rw [Lib.decDigits, dif_pos h1]; simp
  · rw [Lib.decDigits, dif_neg h1, List.length_append, Lib.decDigits, dif_pos (by omega)]; simp
theorem dec_size (n : Nat) (h : n < 100) : (⟨(Lib.decDigits n).toArray⟩ : ByteArray).size ≤ 2 := by
  have := dec_len n h
  simpa [ByteArray.size] using this
def impl_pointText.t (x y : Int) : ByteArray := (dec_ x ++ (⟨#[44]⟩ : ByteArray)) ++ dec_ y
theorem impl_pointText.size (x y : Int) (hx : 0 ≤ x ∧ x < 100) (hy : 0 ≤ y ∧ y < 100) : (impl_pointText.t x y).size ≤ 5 := by
  have h1 := dec_size x.toNat (by omega)
  have h2 := dec_size y.toNat (by omega)
  have e : (impl_pointText.t x y).size = (dec_ x).size + 1 + (dec_ y).size := by simp only [impl_pointText.t, ByteArray.size_append]; rfl
  rw [e]; unfold dec_; omega
theorem impl_pointText.fin {a b c : Prop} (x : a ∧ b ∧ c) : c := x.2.2
def impl_pointText.f (x y : Int) : Option ByteArray := if (0 ≤ x ∧ x < 100) ∧ (0 ≤ y ∧ y < 100) then some (impl_pointText.t x y) else none
set_option maxRecDepth 100000 in
set_option maxHeartbeats 4000000 in
theorem impl_pointText.calls (a0_0 : Int) (a0_1 : Int) (r : ByteArray) (w : World) (h : impl_pointText.f a0_0 a0_1 = some r) :
    Calls Tryd.prog 78 #[.agg #[.int .i64 a0_0, .int .i64 a0_1]] w fun e w' => e = .returned (.string r) ∧ Below w.heap.size w w' := by
  have hu1 := Tryd.underlying97
  unfold impl_pointText.f at h
  by_cases hc : (0 ≤ a0_0 ∧ a0_0 < 100) ∧ (0 ≤ a0_1 ∧ a0_1 < 100)
  case neg => rw [if_neg hc] at h; cases h
  rw [if_pos hc] at h
  obtain ⟨⟨h1, h2⟩, h3, h4⟩ := hc
  obtain ⟨n, rfl⟩ := Int.eq_ofNat_of_zero_le h1
  obtain ⟨m, rfl⟩ := Int.eq_ofNat_of_zero_le h3
  have hn : n < 100 := by omega
  have hm : m < 100 := by omega
  have z1 := dec_size n hn
  have z2 := dec_size m hm
  have HN := Aside0.mk hn
  have HM := Aside0.mk hm
  have hr : (⟨(Lib.decDigits n).toArray⟩ ++ (⟨#[44]⟩ : ByteArray)) ++ ⟨(Lib.decDigits m).toArray⟩ = r := Option.some.inj h
  clear h h1 h2 h3 h4 hn hm
  have I1 := Tryd.strconv_Itoa_small n HN.out
  have I2 := Tryd.strconv_Itoa_small m HM.out
  obtain ⟨s1, hs1⟩ : ∃ s, (⟨(Lib.decDigits n).toArray⟩ : ByteArray) = s := ⟨_, rfl⟩
  obtain ⟨s2, hs2⟩ : ∃ s, (⟨(Lib.decDigits m).toArray⟩ : ByteArray) = s := ⟨_, rfl⟩
  rw [hs1] at z1 I1 hr
  rw [hs2] at z2 I2 hr
  have e1 : (s1 ++ (⟨#[44]⟩ : ByteArray)).size = s1.size + 1 := ByteArray.size_append ..
  have p1 : s1.size + 1 ≤ 9223372036854775807 := by omega
  have p2 : (s1 ++ (⟨#[44]⟩ : ByteArray)).size + s2.size ≤ 9223372036854775807 := by rw [e1]; omega
  have p1' : (9223372036854775807 < s1.size + 1) = False := eq_false (Nat.not_lt.2 p1)
  have p2' : (9223372036854775807 < s1.size + 1 + s2.size) = False := eq_false (by omega)
  have J1 := Aside0.mk I1
  have J2 := Aside0.mk I2
  have HR := Aside0.mk hr
  clear I1 I2 hs1 hs2 e1 z1 z2 hr
  replace p1 := eq_true p1
  replace p2 := eq_true p2
  go_enter Tryd.func78, Tryd.ntmps78
  go_wp2
  have hB : Below w.heap.size w (w.alloc (.cells #[.int .i64 n, .int .i64 m] 97)) := (Below.refl _ w).alloc (Nat.le_refl _) _
  have g := blk_new w (.cells #[.int .i64 n, .int .i64 m] 97)
  have g0 := blk_cell g 0
  have g1 := blk_cell g 1
  obtain ⟨W, hW⟩ : ∃ W, w.alloc (.cells #[.int .i64 n, .int .i64 m] 97) = W := ⟨_, rfl⟩
  rw [hW] at hB g g0 g1 ⊢
  have HB := Aside0.mk hB
  clear hW hB g
  have KS : Aside0 (∀ w', Below W.heap.size W w' → w'.cell? ⟨w.heap.size, 0, none⟩ = some (.int .i64 n) ∧ w'.cell? ⟨w.heap.size, 1, none⟩ = some (.int .i64 m) ∧ Below W.heap.size W w') :=
    ⟨fun w' hb => ⟨(hb.cell (p := ⟨w.heap.size, 0, none⟩) (World.block_lt_of_cell? W _ g0)).trans g0, (hb.cell (p := ⟨w.heap.size, 1, none⟩) (World.block_lt_of_cell? W _ g1)).trans g1, hb⟩⟩
  clear g0 g1
  go_region_held3 (fun w' => w'.cell? ⟨w.heap.size, 0, none⟩ = some (.int .i64 n) ∧ w'.cell? ⟨w.heap.size, 1, none⟩ = some (.int .i64 m) ∧ Below W.heap.size W w') (first | assumption | (refine KS.out _ ?_; repeat (first | exact Below.refl _ _ | exact impl_pointText.fin (by assumption) | apply below_drew1 | apply pw_below_drewN))) (first | (go_at_call 99; refine (J1.out _).mono ?_; rintro e w1 ⟨rfl, rfl⟩) | (go_at_call 99; refine (J2.out _).mono ?_; rintro e w1 ⟨rfl, rfl⟩))
  have hb2 : Below W.heap.size W W.drew := impl_pointText.fin (by assumption)
  have HB2 := Aside0.mk (HB.out.trans (hb2.mono HB.out.size))
  clear hb2
  go_wp2
  go_ret
  exact ⟨by rw [← HR.out]; rfl, HB2.out⟩
end

end Go.Proofs.YtddbahlofgkoaaaDoor.PA
