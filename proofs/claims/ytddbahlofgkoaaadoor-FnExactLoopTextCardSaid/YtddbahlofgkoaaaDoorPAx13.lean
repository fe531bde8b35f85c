-- Functions and their contracts for this seat's laws: written by own_print.py (over the kit's print); Lean checks it.
import Derived.Test.YtddbahlofgkoaaaDoorPAx0
import Derived.Test.YtddbahlofgkoaaaDoorPAx12
namespace Go.Proofs.YtddbahlofgkoaaaDoor.PA
open Go.RowKit Go.Proofs.YtddbahlofgkoaaaDoorW.PrintWords Go.Proofs.YtddbahlofgkoaaaDoorW.PrintLast Go.Proofs.YtddbahlofgkoaaaDoorW.PrintMore
attribute [local go_sem] max2_int min2_int max_two min_two max_three min_three max_four min_four   -- for this text's walks alone
set_option linter.unusedVariables false
set_option linter.unusedSimpArgs false

/-! ### impl_pointsText: function 46 -/
section
open Go.Shelf
def impl_pointsText.in_ (p : S97) : Prop := (0 ≤ p.f0 ∧ p.f0 < 100) ∧ (0 ≤ p.f1 ∧ p.f1 < 100)
instance (p : S97) : Decidable (impl_pointsText.in_ p) := by unfold impl_pointsText.in_; infer_instance
def impl_pointsText.ok (l : List S97) : Bool := decide (0 < l.length) && (decide (l.length ≤ 8) && l.all fun p => decide (impl_pointsText.in_ p))
def impl_pointsText.ws (l : List S97) : List ByteArray := l.map fun p => impl_pointText.t p.f0 p.f1
def impl_pointsText.t (l : List S97) : ByteArray := ⟨(Lib.join ((impl_pointsText.ws l).map (·.data.toList)) [32]).toArray⟩
def impl_pointsText.f (l0 : List S97) : Option ByteArray := if impl_pointsText.ok l0 = true then some (impl_pointsText.t l0) else none
theorem impl_pointsText.lens_le : ∀ xs : List (List UInt8), (∀ x ∈ xs, x.length ≤ 5) → Lib.lens xs ≤ 5 * xs.length
  | [], _ => by simp [Lib.lens]
  | x :: xs, h => by
    have h1 := h x (by simp)
    have h2 := impl_pointsText.lens_le xs (fun y hy => h y (by simp [hy]))
    simp only [Lib.lens, List.map_cons, List.sum_cons, List.length_cons] at h2 ⊢
    omega
theorem impl_pointsText.join_le (sep : List UInt8) (h1 : sep.length = 1) (xs : List (List UInt8)) (h8 : xs.length ≤ 8) (h : ∀ x ∈ xs, x.length ≤ 5) : (Lib.join xs sep).length ≤ 48 := by
  cases xs with
  | nil => simp [Lib.join_nil]
  | cons x xs =>
    rw [Lib.join_length, h1]
    have := impl_pointsText.lens_le _ h
    simp only [List.length_cons] at this h8
    omega
theorem impl_pointsText.cap_le {w : World} {B e size n m g cap : Nat} {xs : List Value} (h : w.ownsRow B e size (.slice (some ⟨g, 0, none⟩) m cap) n xs) : n ≤ cap := by
  rcases h.2 with ⟨h0, _⟩ | ⟨g', cap', cs, h0, h2⟩
  · cases h0
  · cases h0; exact h2.2.2.1
theorem impl_pointsText.meas (i n : Nat) (h : i < n) (e : wrap64 ((i : Int) + 1) = (i : Int) + 1) : n - (intOf (.int .i64 (wrap64 ((i : Int) + 1)))).toNat < n - (intOf (.int .i64 (i : Int))).toNat := by
  rw [e]
  have h1 : intOf (.int .i64 ((i : Int) + 1)) = (i : Int) + 1 := rfl
  have h2 : intOf (.int .i64 (i : Int)) = (i : Int) := rfl
  rw [h1, h2]
  omega
theorem impl_pointsText.own_below {w w' : World} {B e size n : Nat} {v : Value} {xs : List Value} (h : w.ownsRow B e size v n xs) (hb : Below w.heap.size w w') : w'.ownsRow B e size v n xs := by
  obtain ⟨h1, h2⟩ := h
  refine ⟨h1, ?_⟩
  rcases h2 with h2 | ⟨g, cap, cs, q1, q2, q3, q4⟩
  · exact .inl h2
  · exact .inr ⟨g, cap, cs, q1, q2, (hb.block g (Array.getElem?_eq_some_iff.1 q3).1).trans q3, q4⟩
theorem impl_pointsText.joins (g cap : Nat) (xs : List ByteArray) (B : Nat) (w : World) (ho : w.ownsRow B 9 1 (.slice (some ⟨g, 0, none⟩) xs.length cap) xs.length (xs.map Value.string)) (h8 : xs.length ≤ 8) (h5 : ∀ x ∈ xs, x.size ≤ 5) :
    Calls Tryd.prog 79 #[.slice (some ⟨g, 0, none⟩) xs.length cap, .string (⟨#[32]⟩ : ByteArray)] w fun e w' => e = .returned (.string ⟨(Lib.join (xs.map (·.data.toList)) [32]).toArray⟩) ∧ Below w.heap.size w w' := by
  refine Tryd.strings_Join g 0 cap xs (⟨#[32]⟩ : ByteArray) w ?_ (ho.lt g rfl).2 (by omega) (impl_pointsText.cap_le ho) ?_
  · intro j x hx
    have := World.ownsRow.cells ho (g := g) rfl j (.string x) (by rw [List.getElem?_map, hx]; rfl)
    cases j with
    | zero => simpa [Addr.add] using this
    | succ j => simpa [Addr.add] using this
  · refine Nat.le_trans (impl_pointsText.join_le _ rfl _ (by rw [List.length_map]; exact h8) ?_) (by omega)
    intro y hy
    obtain ⟨q, hq, rfl⟩ := List.mem_map.1 hy
    have := h5 q hq
    rw [ByteArray.size, ← Array.length_toList] at this
    exact this
theorem impl_pointsText.ws_len (l : List S97) : (impl_pointsText.ws l).length = l.length := by rw [impl_pointsText.ws, List.length_map]
theorem impl_pointsText.ws_at (l : List S97) (i : Nat) (hlt : i < l.length) : (impl_pointsText.ws l)[i]? = some (impl_pointText.t (rd_T97 l (i : Int)).f0 (rd_T97 l (i : Int)).f1) := by
  rw [impl_pointsText.ws, List.getElem?_map, List.getElem?_eq_getElem hlt, rd_T97, Int.toNat_natCast, List.getD_eq_getElem?_getD, List.getElem?_eq_getElem hlt, Option.getD_some]; rfl
theorem impl_pointsText.ws_5 (l : List S97) (h : ∀ p ∈ l, impl_pointsText.in_ p) : ∀ x ∈ impl_pointsText.ws l, x.size ≤ 5 := by
  intro x hx
  rw [impl_pointsText.ws] at hx
  obtain ⟨q, hq, rfl⟩ := List.mem_map.1 hx
  exact impl_pointText.size q.f0 q.f1 (h q hq).1 (h q hq).2
set_option maxRecDepth 100000 in
set_option maxHeartbeats 4000000 in
theorem impl_pointsText.calls (A0 : Option Addr) (c0 : Nat) (l0 : List S97) (r : ByteArray) (w : World) (hr0 : Kd.C k97 w A0 l0.length l0) (hc0 : l0.length ≤ c0) (h : impl_pointsText.f l0 = some r) :
    Calls Tryd.prog 46 #[.slice A0 l0.length c0] w fun e w' => e = .returned (.string r) ∧ Below w.heap.size w w' := by
  refine (callsIn_wide (n := 8)).1 ?_
  have hu1 := Tryd.underlying97
  unfold impl_pointsText.f at h
  by_cases hok : impl_pointsText.ok l0 = true
  case neg => rw [if_neg hok] at h; cases h
  rw [if_pos hok] at h
  obtain hr := Option.some.inj h
  clear h
  simp only [impl_pointsText.ok, Bool.and_eq_true, decide_eq_true_eq, List.all_eq_true] at hok
  obtain ⟨hp, h8, hall⟩ := hok
  obtain ⟨i0, hi, hz0, hz1, hz2⟩ := info_parts (show (Tryd.prog.info? 9).map (fun i => (i.zero, i.size, i.bytes)) = some (some (.string ⟨#[]⟩), 1, 16) by kernel_rfl)
  have hu3 : Tryd.prog.underlying 94 = some (.slice 9) := by kernel_rfl
  obtain ⟨xs, hxs⟩ : ∃ xs, impl_pointsText.ws l0 = xs := ⟨_, rfl⟩
  have HL := Aside0.mk (show xs.length = l0.length by rw [← hxs]; exact impl_pointsText.ws_len l0)
  have HAT := Aside0.mk (show ∀ i : Nat, i < l0.length → xs[i]? = some (impl_pointText.t (rd_T97 l0 (i : Int)).f0 (rd_T97 l0 (i : Int)).f1) by rw [← hxs]; exact impl_pointsText.ws_at l0)
  have H5 := Aside0.mk (show ∀ x ∈ xs, x.size ≤ 5 by rw [← hxs]; exact impl_pointsText.ws_5 l0 hall)
  have HR := Aside0.mk (show (⟨(Lib.join (xs.map (·.data.toList)) [32]).toArray⟩ : ByteArray) = r by rw [← hr, impl_pointsText.t, hxs])
  clear hr hxs
  have HR0 := Aside0.mk hr0
  have HALL := Aside0.mk hall
  have HP := Aside0.mk hp
  have H8 := Aside0.mk h8
  clear hr0 hall hp
  refine callsIn_of_wp Tryd.func46 rfl trivial ?_ rfl
  simp only [Tryd.ntmps46, List.size_toArray, List.length_cons, List.length_nil, Nat.reduceAdd, Nat.reduceSub, Array.replicate_succ, Array.replicate_zero, List.push_toArray, List.append_toArray, List.nil_append, List.cons_append]
  gi_wp2_with (first | (gi_at_make; refine wpListIn_make_own _ rfl _ _ 94 rfl w.heap.size 9 i0 _ 1 hu3 hi hz0 hz1 .i64 .i64 _ l0.length rfl rfl rfl (by rw [hz2]; omega) (by unfold maxLen; omega) (Nat.le_refl _) ?_; intro w2 hown hgr))
  have HB2 := Aside0.mk ((Below.refl w.heap.size w).grown hgr (Nat.le_refl _) (fun k e => by cases e))
  have HO2 := Aside0.mk hown
  clear hown hgr h8
  gi_loopw [3, 11] (fun v3 v11 wr => ∃ (i g cap : Nat), v3 = .slice (some ⟨g, 0, none⟩) i cap ∧ v11 = .int .i64 i ∧ i ≤ l0.length ∧ wr.ownsRow w.heap.size 9 1 (.slice (some ⟨g, 0, none⟩) i cap) i ((xs.map Value.string).take i) ∧ Below w.heap.size w wr)
    (fun _ v11 _ => l0.length - (intOf v11).toNat)
  case atStart => exact ⟨0, _, _, rfl, rfl, Nat.zero_le _, HO2.out, HB2.out⟩
  case round =>
    obtain ⟨i, g, cap, rfl, rfl, hil, ho, hb⟩ := hrel
    clear HO2 HB2
    have HO := Aside0.mk ho
    have HB := Aside0.mk hb
    have HI := Aside0.mk hil
    clear ho hb hil
    by_cases hlt : i < l0.length
    · have h0' : (0 : Int) ≤ (i : Int) := by omega
      have h1' : (i : Int) < (l0.length : Int) := by omega
      obtain ⟨ad, rfl, q0, q1⟩ := at_T97 (Kd.C_below HR0.out HB.out) (i : Int) h0' h1'
      obtain ⟨p, hp⟩ : ∃ p, rd_T97 l0 (i : Int) = p := ⟨_, rfl⟩
      have hin : impl_pointsText.in_ p := by
        refine HALL.out p ?_
        rw [← hp, rd_T97, Int.toNat_natCast, List.getD_eq_getElem?_getD, List.getElem?_eq_getElem hlt, Option.getD_some]
        exact List.getElem_mem hlt
      have hx := HAT.out i hlt
      rw [hp] at hx
      have HIN0 : impl_pointText.f p.f0 p.f1 = some (impl_pointText.t p.f0 p.f1) := by unfold impl_pointText.f; exact if_pos hin
      rw [hp] at q0 q1
      simp only [Int.toNat_natCast] at q0 q1
      have HIN0 : impl_pointText.f p.f0 p.f1 = some (impl_pointText.t p.f0 p.f1) := by unfold impl_pointText.f; exact if_pos hin
      clear hin hp
      replace h0' := eq_true h0'
      replace h1' := eq_true h1'
      obtain ⟨tx, htx⟩ : ∃ tx, impl_pointText.t p.f0 p.f1 = tx := ⟨_, rfl⟩
      rw [htx] at hx HIN0
      have HX := Aside0.mk hx
      have HIN := Aside0.mk HIN0
      clear hx HIN0 htx
      gi_wp2_with (first | (refine ⟨trivial, ?_⟩; gi_at_call 78; refine (callsIn_wide.2 (impl_pointText.calls _ _ _ _ HIN.out)).mono ?_; rintro e w1 ⟨rfl, hb1⟩) | (gi_at_builtin; refine wpListIn_append_own _ rfl _ _ 94 rfl w.heap.size 9 i0 _ 1 16 hu3 hi hz0 hz1 hz2 rfl (by decide) (.slice (some ⟨g, 0, none⟩) i cap) i ((xs.map Value.string).take i) rfl ((impl_pointsText.own_below (HO.out.alloc _) hb1).alloc _) ⟨w1.heap.size, 0, none⟩ 1 1 [.string (tx)] rfl rfl ?c1 ?c2 ?c3 ?c4 ?c5 ?_))
      case c1 =>
        intro j u hj
        cases j with
        | zero => obtain rfl := Option.some.inj hj; exact blk_cell (blk_new w1 (.cells #[.string (tx)] 9)) 0
        | succ j => simp at hj
      case c2 => intro u hu; simp only [List.mem_singleton] at hu; subst hu; rfl
      case c3 => have := H8.out; unfold maxLen; omega
      case c4 => have := H8.out; omega
      case c5 =>
        have h1 := HB.out.size
        have h2 := hb1.size
        simp only [World.size_alloc] at h2 ⊢
        omega
      · intro v' w4 hown' hgrow _
        obtain ⟨g', cap', rfl⟩ := ownsRow_succ hown'
        have h1 := HB.out.size
        have h2 := hb1.size
        simp only [World.size_alloc] at h2
        have HB4 := Aside0.mk ((((HB.out.alloc h1 (.cells #[.int .i64 p.f0, .int .i64 p.f1] 97)).trans (hb1.mono (by simp only [World.size_alloc]; omega))).alloc (by omega) (.cells #[.string (tx)] 9)).grown hgrow (by simp only [World.size_alloc]; omega) (fun k e => by cases e; exact (HO.out.lt g rfl).1))
        have HO4 := Aside0.mk hown'
        have e1 : wrap64 ((i : Int) + 1) = (i : Int) + 1 := by have := H8.out; exact Geo.w64 (by omega) (by omega)
        clear hown' hgrow h1 h2 hb1 q0 q1
        gi_wp2
        go_roundw
        case rel =>
          refine ⟨i + 1, g', cap', rfl, by simp [e1], hlt, ?_, HB4.out⟩
          have := HO4.out
          rw [List.take_add_one, List.getElem?_map, HX.out]
          exact this
        case measure => exact impl_pointsText.meas i l0.length hlt e1
    · have hie : i = xs.length := by have := HI.out; have := HL.out; omega
      have h1' := eq_false (show ¬ (i : Int) < (l0.length : Int) by omega)
      have HO4 := HO.out
      rw [List.take_of_length_le (by rw [List.length_map]; omega), hie] at HO4
      have HJ := Aside0.mk (impl_pointsText.joins g cap xs w.heap.size wr HO4 (by have := H8.out; have := HL.out; omega) H5.out)
      subst hie
      clear hlt HO4 HO HI
      gi_wp2_with (first | (refine ⟨trivial, ?_⟩; refine (callsIn_wide.2 HJ.out).mono ?_; rintro e w1 ⟨rfl, hb1⟩))
      have HB5 := Aside0.mk (HB.out.trans (hb1.mono HB.out.size))
      go_ret
      exact ⟨by rw [← HR.out]; rfl, HB5.out⟩
end

end Go.Proofs.YtddbahlofgkoaaaDoor.PA
