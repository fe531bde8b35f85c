/-
A loop comes to no point twice; beyond its least and greatest places is beyond it; a point where nothing turns can be left out. With no program in sight.
-/
import Derived.Test.YtppehdjfjigmmaaGeo8
namespace Go.Proofs.Ytppehdjfjigmmaa.Geo
open Go.RowKit

/-! No point twice. -/
theorem Loop.inj {l : List P} (L : Loop l) {i k : Nat} (hik : i < k) (hk : k < l.length) : pt l i ≠ pt l k := by
  intro e
  have h3 := L.lo
  have S := L.simp
  by_cases c1 : k = i + 1
  · subst c1; exact L.ne i e
  · by_cases c2 : k + 2 ≤ i + l.length
    · have h := S.apart i k (by omega) c2
      have : meet0 (pt l i) (pt l (i + 1)) (pt l k) (pt l (k + 1)) = true := by
        rw [meet0_iff]; exact .inr (.inl (by rw [← e]; exact has0_a _ _))
      rw [h] at this; cases this
    · have e1 : pt l (k + 1) = pt l i := by rw [show k + 1 = i + l.length by omega, pt_len]
      exact L.ne k (by rw [e1, e])
theorem pt_app {l : List P} {x : P} {i : Nat} (h : i < l.length) : pt (l ++ [x]) i = pt l i := by
  rw [pt_lt (by rw [List.length_append]; omega), pt_lt h, List.getD_eq_getElem?_getD, List.getD_eq_getElem?_getD, List.getElem?_append_left h]
theorem pt_app_last (l : List P) (x : P) : pt (l ++ [x]) l.length = x := by
  rw [pt_lt (by rw [List.length_append, List.length_singleton]; omega), List.getD_eq_getElem?_getD, List.getElem?_append_right (Nat.le_refl _), Nat.sub_self]; rfl
theorem twice_not {l : List P} {n : Nat} (hn : n < l.length) : ¬ Loop (l ++ [pt l n]) := by
  intro L
  have := L.inj (i := n) (k := l.length) hn (by rw [List.length_append, List.length_singleton]; omega)
  rw [pt_app hn, pt_app_last] at this
  exact this rfl

/-! Beyond the least and greatest places. -/
theorem has0_span {a b p : P} (e : a ≠ b) (h : has0 a b p = true) : (a.1 ≤ p.1 ∨ b.1 ≤ p.1) ∧ (p.1 ≤ a.1 ∨ p.1 ≤ b.1) ∧ (a.2 ≤ p.2 ∨ b.2 ≤ p.2) ∧ (p.2 ≤ a.2 ∨ p.2 ≤ b.2) := by
  obtain ⟨h1, h2, h3⟩ := (has0_iff _ _ _).1 h
  have hD := dot_pos e
  have e1 : dot a b b * (p.1 - a.1) = dot a b p * (b.1 - a.1) - cross a b p * (b.2 - a.2) := by unfold dot cross; grind
  have e2 : dot a b b * (p.2 - a.2) = dot a b p * (b.2 - a.2) + cross a b p * (b.1 - a.1) := by unfold dot cross; grind
  rw [h1, Int.zero_mul, Int.sub_zero] at e1
  rw [h1, Int.zero_mul, Int.add_zero] at e2
  have key : ∀ {x u : Int}, dot a b b * x = dot a b p * u → (0 ≤ x ∨ u ≤ x) ∧ (x ≤ 0 ∨ x ≤ u) := by
    intro x u hx
    have f : dot a b b * (u - x) = (dot a b b - dot a b p) * u := by rw [Int.mul_sub, hx, Int.sub_mul]
    constructor
    · by_cases c : 0 ≤ u
      · left
        have : 0 ≤ dot a b b * x := by rw [hx]; exact Int.mul_nonneg h2 c
        exact Int.nonneg_of_mul_nonneg_right this hD
      · right
        have : 0 ≤ dot a b b * (x - u) := by
          have : (dot a b b - dot a b p) * u ≤ 0 := Int.mul_nonpos_of_nonneg_of_nonpos (by omega) (by omega)
          rw [← f] at this
          rw [Int.mul_sub] at this ⊢; omega
        have := Int.nonneg_of_mul_nonneg_right this hD; omega
    · by_cases c : 0 ≤ u
      · right
        have : 0 ≤ dot a b b * (u - x) := by rw [f]; exact Int.mul_nonneg (by omega) c
        have := Int.nonneg_of_mul_nonneg_right this hD; omega
      · left
        have : 0 ≤ dot a b b * (-x) := by
          have : dot a b p * u ≤ 0 := Int.mul_nonpos_of_nonneg_of_nonpos h2 (by omega)
          rw [Int.mul_neg]; omega
        have := Int.nonneg_of_mul_nonneg_right this hD; omega
  have k1 := key e1
  have k2 := key e2
  omega
theorem right_wd {a b p : P} (h1 : a.1 < p.1) (h2 : b.1 < p.1) : wd a b p = 0 := by
  have e : cross a b p = (b.1 - p.1) * (p.2 - a.2) - (p.1 - a.1) * (b.2 - p.2) := by unfold cross; grind
  rw [wd_eq]
  by_cases c1 : a.2 ≤ p.2 ∧ p.2 < b.2
  · have z1 : (b.1 - p.1) * (p.2 - a.2) ≤ 0 := Int.mul_nonpos_of_nonpos_of_nonneg (by omega) (by omega)
    have z2 : 0 < (p.1 - a.1) * (b.2 - p.2) := Int.mul_pos (by omega) (by omega)
    rw [if_neg (by omega), if_neg (by omega)]
  · by_cases c2 : b.2 ≤ p.2 ∧ p.2 < a.2
    · have z1 : 0 < (b.1 - p.1) * (p.2 - a.2) := Int.mul_pos_of_neg_of_neg (by omega) (by omega)
      have z2 : (p.1 - a.1) * (b.2 - p.2) ≤ 0 := Int.mul_nonpos_of_nonneg_of_nonpos (by omega) (by omega)
      rw [if_neg (by omega), if_neg (by omega)]
    · rw [if_neg (by omega), if_neg (by omega)]
theorem way_zero {v : Nat → P} {p : P} (h : ∀ i, wd (v i) (v (i + 1)) p = 0) : ∀ n, way v p n = 0
  | 0 => rfl
  | n + 1 => by rw [way_last, way_zero h n, h n]; rfl
theorem beyond {l : List P} (L : Loop l) {p : P} (hp : Geo.ok p = true) (h : (∀ i, p.1 < (pt l i).1) ∨ (∀ i, (pt l i).1 < p.1) ∨ (∀ i, p.2 < (pt l i).2) ∨ (∀ i, (pt l i).2 < p.2)) : inside l p = -1 := by
  have h3 := L.lo
  have hoff : ∀ i, has0 (pt l i) (pt l (i + 1)) p = false := fun i => by
    rw [Bool.eq_false_iff]; intro hh
    have := has0_span (L.ne i) hh
    rcases h with h | h | h | h <;> have h1 := h i <;> have h2 := h (i + 1) <;> omega
  have ho : on l p = false := by
    rw [Bool.eq_false_iff]; intro hh
    obtain ⟨i, _, hi⟩ := (on_iff _ _).1 hh
    rw [L.has_has0 hp, hoff i] at hi; cases hi
  have hw : wnd l p = 0 := by
    rcases h with h | h | h | h
    · have e := wnd_map (f := mir) (g := up) (l := l) (p := p) (by omega) (fun _ _ h => wd_mir h) (fun i _ => hoff i)
      have z : wnd (l.map mir) (mir p) = 0 := way_zero (fun i => right_wd (by rw [pt_map (by omega)]; have := h i; show 9 - (pt l i).1 < 9 - p.1; omega) (by rw [pt_map (by omega)]; have := h (i + 1); show 9 - (pt l (i + 1)).1 < 9 - p.1; omega)) _
      omega
    · exact way_zero (fun i => right_wd (h i) (h (i + 1))) _
    · exact way_zero (fun i => by have h1 := h i; have h2 := h (i + 1); rw [wd_eq, if_neg (by omega), if_neg (by omega)]) _
    · exact way_zero (fun i => by have h1 := h i; have h2 := h (i + 1); rw [wd_eq, if_neg (by omega), if_neg (by omega)]) _
  rw [inside_off ho, win_wnd, hw]; rfl
theorem corner_on {l : List P} (L : Loop l) (i : Nat) : inside l (pt l i) = 0 := by
  rw [inside_zero, on_any (by have := L.lo; omega)]; exact ⟨i, has_a (L.seg i)⟩

/-! A point where nothing turns. -/
theorem straight_on {a q b : P} (haq : a ≠ q) (hqb : q ≠ b) (ht : Turns (vec a q) (vec q b)) (h : cross a q b = 0) : a ≠ b ∧ has0 a b q = true := by
  have e0 : xp (vec a q) (vec q b) = 0 := by rw [← h]; unfold xp vec cross; grind
  have hg := ht e0
  have h1 := dot_pos haq
  have h2 := dot_pos hqb
  have e1 : dot a b q = dot a q q + ((vec a q).1 * (vec q b).1 + (vec a q).2 * (vec q b).2) := by unfold dot vec; grind
  have e2 : dot a b b - dot a b q = dot q b b + ((vec a q).1 * (vec q b).1 + (vec a q).2 * (vec q b).2) := by unfold dot vec; grind
  have e3 : cross a b q = -cross a q b := by unfold cross; grind
  refine ⟨fun e => ?_, (has0_iff _ _ _).2 ⟨by omega, by omega, by omega⟩⟩
  subst e
  have : dot a a q = 0 := by unfold dot; grind
  omega
section
variable {m : List P} {q : P} (L : Loop (m ++ [q]))
include L
theorem drop_parts (h3 : 3 ≤ m.length) : (∀ i, i < m.length → pt (m ++ [q]) i = pt m i) ∧ pt (m ++ [q]) m.length = q ∧ pt (m ++ [q]) (m.length + 1) = pt m 0 ∧ pt (m ++ [q]) (m.length + 2) = pt m 1 ∧ m.length ≤ 7 := by
  have hl : (m ++ [q]).length = m.length + 1 := by rw [List.length_append]; rfl
  have h8 := L.hi
  refine ⟨fun i hi => pt_app hi, pt_app_last m q, ?_, ?_, by omega⟩
  · have := pt_len (m ++ [q]) 0
    rw [hl, Nat.zero_add] at this; rw [this, pt_app (by omega)]
  · have := pt_len (m ++ [q]) 1
    rw [hl, Nat.add_comm] at this; rw [show m.length + 2 = m.length + 1 + 1 by omega, this, pt_app (by omega)]
theorem drop_area (h3 : 3 ≤ m.length) : area (m ++ [q]) = area m + cross (pt m (m.length - 1)) q (pt m 0) := by
  obtain ⟨p1, p2, p3, _, _⟩ := drop_parts L h3
  have hl : (m ++ [q]).length = m.length + 1 := by rw [List.length_append]; rfl
  unfold area
  rw [hl]
  obtain ⟨n, hn⟩ := Nat.exists_eq_add_of_le' (show 1 ≤ m.length by omega)
  rw [hn] at p2 p3 ⊢
  rw [sumTo, sumTo, sumTo, p2, p3, p1 n (by omega), show n + 1 - 1 = n by omega]
  have e0 : pt m (n + 1) = pt m 0 := by rw [← hn]; exact pt_end m
  rw [e0, sumTo_congr (g := fun i => det (pt m i) (pt m (i + 1))) n (fun i hi => by rw [p1 i (by omega), p1 (i + 1) (by omega)])]
  have : cross (pt m n) q (pt m 0) = det (pt m n) q + det q (pt m 0) - det (pt m n) (pt m 0) := by unfold cross det; grind
  omega
theorem drop_loop (h3 : 3 ≤ m.length) (h : cross (pt m (m.length - 1)) q (pt m 0) = 0) : Loop m := by
  obtain ⟨p1, p2, p3, p4, h7⟩ := drop_parts L h3
  have S := L.simp
  have hl : (m ++ [q]).length = m.length + 1 := by rw [List.length_append]; rfl
  obtain ⟨n, hn⟩ := Nat.exists_eq_add_of_le' (show 1 ≤ m.length by omega)
  rw [hn] at h h3 h7 p1 p2 p3 p4 hl
  rw [show n + 1 - 1 = n by omega] at h
  have pa := p1 n (by omega)
  have e0 : pt m (n + 1) = pt m 0 := by rw [← hn]; exact pt_end m
  have e1 : pt m (n + 2) = pt m 1 := by have := pt_len m 1; rwa [hn, show 1 + (n + 1) = n + 2 by omega] at this
  have naq : pt m n ≠ q := by have := L.ne n; rwa [pa, p2] at this
  have nqb : q ≠ pt m 0 := by have := L.ne (n + 1); rwa [p2, p3] at this
  have tq : Turns (vec (pt m n) q) (vec q (pt m 0)) := by have := S.turn n; rwa [pa, p2, p3] at this
  obtain ⟨nab, hq⟩ := straight_on naq nqb tq h
  -- old facts, by the points' own names
  have ok' : ∀ i, i < n + 1 → Geo.ok (pt m i) = true := fun i hi => by have := L.ok i; rwa [p1 i hi] at this
  have has_of : ∀ {a b c : P}, Geo.ok c = true → segOk a b = true → has a b c = false → has0 a b c = false := by
    intro a b c hc hs hh
    unfold has at hh; rw [hs, hc] at hh; simpa using hh
  have of_has0 : ∀ {a b c : P}, has0 a b c = false → has a b c = false := by
    intro a b c hh; unfold has; rw [hh]; simp
  have of_meet0 : ∀ {a b c d : P}, meet0 a b c d = false → meet a b c d = false := by
    intro a b c d hh; unfold meet; rw [hh]; simp
  have hf : ∀ {b : Bool}, b = false → ¬ b = true := by intro b hb; rw [hb]; decide
  have fo : ∀ i, has0 (pt (m ++ [q]) i) (pt (m ++ [q]) (i + 1)) (pt (m ++ [q]) (i + 2)) = false := fun i => has_of (L.ok _) (L.seg i) (L.fore i)
  have ba : ∀ i, has0 (pt (m ++ [q]) (i + 1)) (pt (m ++ [q]) (i + 2)) (pt (m ++ [q]) i) = false := fun i => has_of (L.ok _) (L.seg (i + 1)) (L.back i)
  -- the last edge ahead of the point, the point's two edges, the first edge
  have a0 : meet0 (pt m 0) (pt m 1) (pt m n) q = false := by
    have := S.apart 0 n (by omega) (by omega)
    rwa [p1 0 (by omega), p1 1 (by omega), pa, p2] at this
  have al : meet0 (pt m (n - 1)) (pt m n) q (pt m 0) = false := by
    have := S.apart (n - 1) (n + 1) (by omega) (by omega)
    rwa [show n - 1 + 1 = n by omega, p1 (n - 1) (by omega), pa, p2, show n + 1 + 1 = n + 2 - 1 + 1 by omega, show n + 2 - 1 + 1 = n + 1 + 1 by omega, p3] at this
  have parts : ∀ c, has0 (pt m n) (pt m 0) c = true → has0 (pt m n) q c = true ∨ has0 q (pt m 0) c = true := fun c hc => has0_parts nab hq hc
  refine loop_of (by rw [hn]; omega) (by rw [hn]; omega) (fun i hi => ?_) (fun i hi => ?_) (fun i hi => ?_) (fun i k hik hk h4 h5 => ?_)
  · rw [hn] at hi
    by_cases c : i + 1 < n + 1
    · have := L.seg i; rwa [p1 i hi, p1 (i + 1) c] at this
    · obtain rfl : i = n := by omega
      rw [e0, segOk_iff]; exact ⟨ok' _ (by omega), ok' 0 (by omega), nab⟩
  · rw [hn] at hi
    refine of_has0 ?_
    by_cases c : i + 2 < n + 1
    · have := fo i; rwa [p1 i hi, p1 (i + 1) (by omega), p1 (i + 2) c] at this
    · rw [Bool.eq_false_iff]; intro hh
      by_cases c2 : i = n
      · subst c2
        rw [e0, e1] at hh
        rcases parts _ hh with hh | hh
        · exact hf a0 (by rw [meet0_iff]; exact .inr (.inr (.inr (.inr hh))))
        · have := fo (i + 1)
          rw [p2, p3, p4] at this; exact hf this hh
      · obtain rfl : i = n - 1 := by omega
        rw [show n - 1 + 1 = n by omega, show n - 1 + 2 = n + 1 by omega, e0] at hh
        exact hf al (by rw [meet0_iff]; exact .inr (.inr (.inl hh)))
  · rw [hn] at hi
    refine of_has0 ?_
    by_cases c : i + 2 < n + 1
    · have := ba i; rwa [p1 i hi, p1 (i + 1) (by omega), p1 (i + 2) c] at this
    · rw [Bool.eq_false_iff]; intro hh
      by_cases c2 : i = n
      · subst c2
        rw [e0, e1] at hh
        exact hf a0 (by rw [meet0_iff]; exact .inr (.inl hh))
      · obtain rfl : i = n - 1 := by omega
        rw [show n - 1 + 1 = n by omega, show n - 1 + 2 = n + 1 by omega, e0] at hh
        rcases parts _ hh with hh | hh
        · have := ba (n - 1)
          rw [show n - 1 + 1 = n by omega, show n - 1 + 2 = n + 1 by omega, pa, p2, p1 (n - 1) (by omega)] at this
          exact hf this hh
        · exact hf al (by rw [meet0_iff]; exact .inr (.inr (.inr (.inl hh))))
  · rw [hn] at hk h5
    refine of_meet0 ?_
    by_cases c : k + 1 < n + 1
    · have := S.apart i k (by omega) (by omega)
      rwa [p1 i (by omega), p1 (i + 1) (by omega), p1 k (by omega), p1 (k + 1) c] at this
    · obtain rfl : k = n := by omega
      have hi0 : i ≠ 0 := fun e => h5 ⟨e, by omega⟩
      rw [e0, Bool.eq_false_iff]; intro hh
      rw [meet0_sym] at hh
      have b1 := S.apart i k (by omega) (by omega)
      have b2 := S.apart i (k + 1) (by omega) (by omega)
      rw [p1 i (by omega), p1 (i + 1) (by omega), pa, p2] at b1
      rw [p1 i (by omega), p1 (i + 1) (by omega), p2, p3] at b2
      rcases meet0_parts nab (by have := L.ne i; rwa [p1 i (by omega), p1 (i + 1) (by omega)] at this) hq (fun e => naq e.symm) nqb hh with g | g
      · rw [meet0_sym] at g; exact hf b1 g
      · rw [meet0_sym] at g; exact hf b2 g
end
/-- A loop without its point k. -/
def less (l : List P) (k : Nat) : List P := l.take k ++ l.drop (k + 1)
theorem rot_back {l : List P} {k : Nat} (_ : k ≤ l.length) : rot (rot l k) (l.length - k) = l := by
  have e : (l.drop k).length = l.length - k := List.length_drop ..
  unfold rot
  rw [List.drop_left' e, List.take_left' e, List.take_append_drop]
theorem less_rot {l : List P} {k : Nat} (h : k < l.length) : rot (less l k) k = l.drop (k + 1) ++ l.take k := by
  unfold rot less
  have e : (l.take k).length = k := by rw [List.length_take]; omega
  rw [List.drop_left' e, List.take_left' e]
theorem full_rot {l : List P} {k : Nat} (h : k < l.length) : rot l (k + 1) = (l.drop (k + 1) ++ l.take k) ++ [pt l k] := by
  unfold rot
  rw [List.take_succ_eq_append_getElem h, List.append_assoc, pt_lt h, List.getD_eq_getElem?_getD, List.getElem?_eq_getElem h]; rfl
theorem less_straight {l : List P} (L : Loop l) {k : Nat} (hk : k < l.length) (h4 : 4 ≤ l.length) :
    area (less l k) = area l - cross (pt l (k + l.length - 1)) (pt l k) (pt l (k + 1)) ∧ (cross (pt l (k + l.length - 1)) (pt l k) (pt l (k + 1)) = 0 → Loop (less l k)) := by
  have R := L.rot (m := k + 1) (by omega)
  have ar := area_rot (l := l) (m := k + 1) (by omega)
  have hlen : (l.drop (k + 1) ++ l.take k).length = l.length - 1 := by rw [List.length_append, List.length_drop, List.length_take]; omega
  have ll : (less l k).length = l.length - 1 := by unfold less; rw [List.length_append, List.length_drop, List.length_take]; omega
  have ptm : ∀ i, i < l.length - 1 → pt (l.drop (k + 1) ++ l.take k) i = pt l (i + (k + 1)) := fun i hi => by
    rw [← pt_rot (l := l) (m := k + 1) (by omega), full_rot hk, pt_app (by omega)]
  rw [full_rot hk] at R ar
  have e1 := ptm (l.length - 2) (by omega)
  have e2 := ptm 0 (by omega)
  rw [show l.length - 2 + (k + 1) = k + l.length - 1 by omega] at e1
  rw [Nat.zero_add] at e2
  have da := drop_area R (by omega)
  have dl := drop_loop R (by omega)
  rw [hlen, show l.length - 1 - 1 = l.length - 2 by omega, e1, e2] at da dl
  have back : rot (l.drop (k + 1) ++ l.take k) ((less l k).length - k) = less l k := by rw [← less_rot hk]; exact rot_back (by omega)
  have ak : area (less l k) = area (l.drop (k + 1) ++ l.take k) := by rw [← less_rot hk, area_rot (by omega)]
  refine ⟨by omega, fun hc => ?_⟩
  rw [← back]
  exact (dl hc).rot (by omega)
end Go.Proofs.Ytppehdjfjigmmaa.Geo
