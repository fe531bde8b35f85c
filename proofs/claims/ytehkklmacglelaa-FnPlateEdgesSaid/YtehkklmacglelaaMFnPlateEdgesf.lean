/- What the row of FnPlateEdges rests on, part 5: words, plain facts, functions and their contracts. No condition. -/
import Derived.Test.YtehkklmacglelaaMFnPlateEdgese
namespace Go.Proofs.Ytehkklmacglelaa.PA
open Go.RowKit Go.Proofs.YtehkklmacglelaaW.PrintWords Go.Proofs.YtehkklmacglelaaW.PrintLast Go.Proofs.YtehkklmacglelaaW.PrintMore
attribute [local go_sem] max2_int min2_int max_two min_two max_three min_three max_four min_four   -- for this text's walks alone
set_option linter.unusedVariables false
set_option linter.unusedSimpArgs false

/-! ### impl_body_nested: function 86 -/
section
open Edges Go.Shelf
attribute [local go_sem] neqRing neqRing_d neqRing_same

def insF (l : List S25) (p : S25) : Int := (impl_insideOf.f l p.f0 p.f1).getD 0
theorem insF_eq (l : List S25) (p : S25) : impl_insideOf.f l p.f0 p.f1 = some (insF l p) := rfl
def hd0 (l : List S25) : S25 := rd_T25 l 0
def nestedM (n : Nd) (ns : List Nd) (m : Nd) : Bool := decide (insF n.l (hd0 m.l) = 1) && ns.all (fun x => decide (x.b = m.b) || decide (insF x.l (hd0 m.l) = -1))
def nestedN (n : Nd) (ns : List Nd) : Bool := ns.all (nestedM n ns)
def impl_body_nested.T10 : Bool × List (List Nat × List Nat) := (true, [([], []), ([], []), ([0, 1], [0, 1]), ([2], [2]), ([3], [3]), ([4, 3], [3, 4]), ([5, 3], [3, 5]), ([6, 3], [3, 6]), ([3], [3]), ([7, 8, 3, 3], [3, 7, 8]), ([9, 3], [3, 9]), ([3, 10], [3, 10])])
def impl_body_nested.B10 : List Nat := [0, 0, 3, 7, 15, 31, 63, 127, 15, 511, 1023, 2047]
theorem impl_body_nested.tab10 : rtab .any (opsOf Try.f86 10) = impl_body_nested.T10 := by kernel_rfl
theorem impl_body_nested.bits10 : waitsOk impl_body_nested.T10.2 impl_body_nested.B10 = true := by kernel_rfl
theorem impl_body_nested.fin4 {a b c d : Prop} (x : a ∧ b ∧ c ∧ d) : d := x.2.2.2
theorem impl_body_nested.fin6 {a b c d e f : Prop} (x : a ∧ b ∧ c ∧ d ∧ e ∧ f) : f := x.2.2.2.2.2
theorem impl_body_nested.stepB {W w1 w' : World} (h : Below W.heap.size W w1) (hb : Below w1.heap.size w1 w') : Below W.heap.size W w' := h.trans (hb.mono h.size)
set_option maxRecDepth 100000 in
set_option maxHeartbeats 4000000 in
theorem impl_body_nested.calls (n : Nd) (ns : List Nd) (w : World) (h : Chain w (n :: ns)) (hlen : ∀ m ∈ ns, 0 < m.l.length) :
    Calls Try.prog 86 #[.pointer (some ⟨n.b, 0, none⟩)] w fun e w' => e = .returned (.bool (nestedN n ns)) ∧ Below w.heap.size w w' := by
  have hu1 := Try.underlying25
  have hu3 := Try.underlying92
  have hu4 := Try.underlying94
  have HC := Aside0.mk h
  have HL := Aside0.mk hlen
  have n1 := h.1.2.1
  clear h hlen
  go_enter Try.func86, Try.ntmps86
  go_wp2
  clear n1
  go_loopg [3] (ns.length + 1) (fun kq v3 w' => ∃ rest, v3 = Nd.ptr rest ∧ kq = rest.length + 1 ∧ Chain w' rest ∧ Chain w' (n :: ns) ∧ (∀ m ∈ rest, 0 < m.l.length) ∧ nestedN n ns = rest.all (nestedM n ns) ∧ Below w.heap.size w w')
  case atStart => exact ⟨ns, rfl, rfl, HC.out.2, HC.out, HL.out, rfl, Below.refl _ _⟩
  case round =>
    obtain ⟨rest, rfl, hk, hc, hN, hl, ha, hb⟩ := hrel
    cases gk with
    | zero => omega
    | succ k1 =>
      cases rest with
      | nil =>
        simp only [Nd.ptr_nil]
        clear hc hN
        go_wp2
        go_ret
        exact ⟨by rw [ha]; rfl, hb⟩
      | cons m r =>
        simp only [Nd.ptr_cons]
        obtain ⟨⟨c0, c1, cC, cl⟩, hc'⟩ := hc
        have hm0 : 0 < m.l.length := hl m (List.mem_cons_self ..)
        obtain ⟨ad, hA, p0, p1⟩ := at_T25 cC (0 : Int) (by omega) (by omega)
        have HM := Aside0.mk (show Chain wr (m :: r) from ⟨⟨c0, c1, cC, cl⟩, hc'⟩)
        have HN := Aside0.mk hN
        have HK := Aside0.mk hk
        have HR := Aside0.mk ha
        have HB := Aside0.mk hb
        have HL2 := Aside0.mk hl
        have HM0 := Aside0.mk hm0
        rw [hA] at c0
        have q0 : wr.cell? ad = some (.int .i64 (hd0 m.l).f0) := p0
        have q1 : wr.cell? ⟨ad.block, ad.off + 1, none⟩ = some (.int .i64 (hd0 m.l).f1) := p1
        clear p0 p1 c1 cC cl hc' hN hk ha hb hl
        go_wp2
        clear c0 q0 q1
        have hBW : Below wr.heap.size wr (wr.alloc (.cells #[.int .i64 (hd0 m.l).f0, .int .i64 (hd0 m.l).f1] 25)) := (Below.refl _ wr).alloc (Nat.le_refl _) _
        have HN1 := Aside0.mk (Chain.below hBW HN.out)
        have HM1 := Aside0.mk (Chain.below hBW HM.out)
        have HB1 := Aside0.mk (HB.out.trans (hBW.mono HB.out.size))
        have HF := Aside0.mk (blk_new wr (.cells #[.int .i64 (hd0 m.l).f0, .int .i64 (hd0 m.l).f1] 25))
        have HW := Aside0.mk (show wr.heap.size < (wr.alloc (.cells #[.int .i64 (hd0 m.l).f0, .int .i64 (hd0 m.l).f1] 25)).heap.size by simp)
        obtain ⟨F, hF⟩ : ∃ F, wr.heap.size = F := ⟨_, rfl⟩
        rw [hF] at HF HW ⊢
        obtain ⟨W1, hW1⟩ : ∃ W1, wr.alloc (.cells #[.int .i64 (hd0 m.l).f0, .int .i64 (hd0 m.l).f1] 25) = W1 := ⟨_, rfl⟩
        rw [hW1] at HN1 HM1 HB1 HF HW ⊢
        clear HM HN HB hBW hW1 hF
        have KS : Aside0 (∀ w', Below W1.heap.size W1 w' → w'.cell? ⟨n.b, 0, none⟩ = some (.slice n.A n.l.length n.c) ∧ w'.cell? ⟨F, 0, none⟩ = some (.int .i64 (hd0 m.l).f0) ∧ w'.cell? ⟨F, 1, none⟩ = some (.int .i64 (hd0 m.l).f1) ∧ Below W1.heap.size W1 w') :=
          ⟨fun w' hb => ⟨(hb.cell (p := ⟨n.b, 0, none⟩) (World.block_lt_of_cell? W1 _ HN1.out.1.1)).trans HN1.out.1.1, (hb.cell (p := ⟨F, 0, none⟩) HW.out).trans (blk_cell HF.out 0), (hb.cell (p := ⟨F, 1, none⟩) HW.out).trans (blk_cell HF.out 1), hb⟩⟩
        obtain ⟨v, hv⟩ : ∃ v, insF n.l (hd0 m.l) = v := ⟨_, rfl⟩
        have HV := Aside0.mk (show impl_insideOf.f n.l (hd0 m.l).f0 (hd0 m.l).f1 = some v by rw [insF_eq, hv])
        have HV' := Aside0.mk hv
        clear hv
        go_region_held3 (fun w' => w'.cell? ⟨n.b, 0, none⟩ = some (.slice n.A n.l.length n.c) ∧ w'.cell? ⟨F, 0, none⟩ = some (.int .i64 (hd0 m.l).f0) ∧ w'.cell? ⟨F, 1, none⟩ = some (.int .i64 (hd0 m.l).f1) ∧ Below W1.heap.size W1 w') (first | assumption | (refine KS.out _ ?_; repeat (first | exact Below.refl _ _ | exact impl_body_nested.fin4 (by assumption) | exact impl_body_nested.stepB (impl_body_nested.fin4 (by assumption)) hb1 | apply below_drew1 | apply pw_below_drewN))) (first | (go_at_call 49; refine (impl_insideOf.calls n.A n.c n.l _ _ v _ ?sc HN1.out.1.2.2.2.1 HV.out).mono ?_; (case sc => refine Kd.C_below HN1.out.1.2.2.1 ?_; repeat (first | exact Below.refl _ _ | exact impl_body_nested.fin4 (by assumption) | apply below_drew1 | apply pw_below_drewN)); rintro e w1 ⟨rfl, hb1⟩))
        have hb2 : Below W1.heap.size W1 w1 := impl_body_nested.fin4 (by assumption)
        have HN2 := Aside0.mk (Chain.below hb2 HN1.out)
        have HM2 := Aside0.mk (Chain.below hb2 HM1.out)
        have HB2 := Aside0.mk (HB1.out.trans (hb2.mono HB1.out.size))
        have HF2 := Aside0.mk ((hb2.block F HW.out).trans HF.out)
        have n1 := HN2.out.1.2.1
        clear hb2 HN1 HM1 HB1 HF HW KS
        go_wp2
        · rename_i hv1
          go_ret
          refine ⟨?_, HB2.out⟩
          have e : (m :: r).all (nestedM n ns) = false := by
            rw [List.all_cons, nestedM, HV'.out]
            simp only [bne_iff_ne, ne_eq] at hv1
            rw [decide_eq_false hv1]; rfl
          rw [HR.out, e]; rfl
        · rename_i hv1
          clear n1
          have HV1 := Aside0.mk (show v = 1 by simpa using hv1)
          clear hv1
          go_loopg [5] (ns.length + 1) (fun kq v5 w' => ∃ mid, v5 = Nd.ptr mid ∧ kq = mid.length + 1 ∧ Chain w' mid ∧ Chain w' (n :: ns) ∧ Chain w' (m :: r) ∧ w'.heap[F]? = some (.cells #[.int .i64 (hd0 m.l).f0, .int .i64 (hd0 m.l).f1] 25 (0, 0)) ∧ ns.all (fun x => decide (x.b = m.b) || decide (insF x.l (hd0 m.l) = -1)) = mid.all (fun x => decide (x.b = m.b) || decide (insF x.l (hd0 m.l) = -1)) ∧ Below w.heap.size w w')
          case atStart => exact ⟨ns, rfl, rfl, HN2.out.2, HN2.out, HM2.out, HF2.out, rfl, HB2.out⟩
          case round =>
            clear HN2 HM2 HB2 HF2
            obtain ⟨mid, rfl, hk2, hcx, hN, hM, hF, ha2, hb2⟩ := hrel
            have HN := Aside0.mk hN
            have HM := Aside0.mk hM
            have HF := Aside0.mk hF
            have HA2 := Aside0.mk ha2
            have HB2 := Aside0.mk hb2
            have HK2 := Aside0.mk hk2
            clear hN hM hF ha2 hb2 hk2
            cases gk with
            | zero => have := HK2.out; omega
            | succ k2 =>
              cases mid with
              | nil =>
                simp only [Nd.ptr_nil]
                have m1 := HM.out.1.2.1
                clear hcx
                go_wp2
                go_roundg k1
                case measure => have := HK.out; simp at this; omega
                case rel =>
                  refine ⟨r, rfl, by have := HK.out; simp at this; omega, HM.out.2, HN.out, fun z hz => HL2.out z (List.mem_cons_of_mem _ hz), ?_, HB2.out⟩
                  rw [HR.out, List.all_cons, nestedM, HV'.out, HV1.out, HA2.out]; simp
              | cons x mid' =>
                simp only [Nd.ptr_cons]
                have HX := Aside0.mk hcx
                clear hcx
                obtain ⟨u, hu⟩ : ∃ u, insF x.l (hd0 m.l) = u := ⟨_, rfl⟩
                have HU := Aside0.mk (show impl_insideOf.f x.l (hd0 m.l).f0 (hd0 m.l).f1 = some u by rw [insF_eq, hu])
                have HU' := Aside0.mk hu
                clear hu
                have KS : Aside0 (∀ w', Below wr.heap.size wr w' → w'.cell? ⟨x.b, 0, none⟩ = some (.slice x.A x.l.length x.c) ∧ w'.cell? ⟨F, 0, none⟩ = some (.int .i64 (hd0 m.l).f0) ∧ w'.cell? ⟨F, 1, none⟩ = some (.int .i64 (hd0 m.l).f1) ∧ Below wr.heap.size wr w') :=
                  ⟨fun w' hb => ⟨(hb.cell (p := ⟨x.b, 0, none⟩) (World.block_lt_of_cell? wr _ HX.out.1.1)).trans HX.out.1.1, (hb.cell (p := ⟨F, 0, none⟩) (World.block_lt_of_cell? wr _ (blk_cell HF.out 0))).trans (blk_cell HF.out 0), (hb.cell (p := ⟨F, 1, none⟩) (World.block_lt_of_cell? wr _ (blk_cell HF.out 1))).trans (blk_cell HF.out 1), hb⟩⟩
                have bx := HX.out.1.2.2.2.2
                have bm := HM.out.1.2.2.2.2
                by_cases hxb : x.b = m.b
                · have x1 : wr.cell? ⟨m.b, 1, none⟩ = some (Nd.ptr mid') := by rw [← hxb]; exact HX.out.1.2.1
                  rw [hxb]
                  go_wp2
                  refine start_ (n := 12) (S := fun _ => True) (ds := []) #[false, false, false, false, false, false, false, false, false, false, false, false] (by kernel_rfl) rfl rfl trivial (fun hHeld => ?_)
                  refine with_tabW impl_body_nested.tab10 impl_body_nested.bits10 (fun HT_ HW_ => ?_)
                  refine pu_ HT_.out 0 42 {} ?_; refine pu_ HT_.out 1 43 {} ?_; refine pu_ HT_.out 2 44 {} ?_; refine pu_ HT_.out 3 45 {} ?_; refine pv_ HT_.out 4 46 {} ?_; refine pv_ HT_.out 5 47 {} ?_; refine pv_ HT_.out 6 48 {} ?_; refine pv_ HT_.out 7 49 {} ?_; refine pv_ HT_.out 8 50 {} ?_; refine pv_ HT_.out 9 51 {} ?_; refine pv_ HT_.out 10 52 {} ?_; refine pu_ HT_.out 11 53 {} ?_
                  refine done_ (done_of HT_.out (by kernel_rfl)) ?_
                  clear HT_ HW_ hHeld
                  all_goals
                    go_wp2
                    have hb3 : Below wr.heap.size wr wr.drew := (Below.refl _ wr).drew
                    have HN3 := Aside0.mk (Chain.below hb3 HN.out)
                    have HM3 := Aside0.mk (Chain.below hb3 HM.out)
                    have HX3 := Aside0.mk (Chain.below hb3 HX.out)
                    have HB3 := Aside0.mk (HB2.out.trans (hb3.mono HB2.out.size))
                    have HF3 := Aside0.mk ((hb3.block F (Array.getElem?_eq_some_iff.1 HF.out).1).trans HF.out)
                    clear hb3 x1 bx bm
                    go_roundg k2
                    case measure => have := HK2.out; simp at this; omega
                    case rel => exact ⟨mid', rfl, by have := HK2.out; simp at this; omega, HX3.out.2, HN3.out, HM3.out, HF3.out, by rw [HA2.out, List.all_cons]; simp [hxb], HB3.out⟩
                · have KS2 : Aside0 (∀ w', Below wr.heap.size wr w' → w'.cell? ⟨x.b, 0, none⟩ = some (.slice x.A x.l.length x.c) ∧ w'.cell? ⟨F, 0, none⟩ = some (.int .i64 (hd0 m.l).f0) ∧ w'.cell? ⟨F, 1, none⟩ = some (.int .i64 (hd0 m.l).f1) ∧ IsBlk w' x.b ∧ IsBlk w' m.b ∧ Below wr.heap.size wr w') :=
                    ⟨fun w' hb => ⟨(KS.out w' hb).1, (KS.out w' hb).2.1, (KS.out w' hb).2.2.1, IsBlk.below hb bx, IsBlk.below hb bm, hb⟩⟩
                  clear KS
                  go_wp2
                  go_region_held3 (fun w' => w'.cell? ⟨x.b, 0, none⟩ = some (.slice x.A x.l.length x.c) ∧ w'.cell? ⟨F, 0, none⟩ = some (.int .i64 (hd0 m.l).f0) ∧ w'.cell? ⟨F, 1, none⟩ = some (.int .i64 (hd0 m.l).f1) ∧ IsBlk w' x.b ∧ IsBlk w' m.b ∧ Below wr.heap.size wr w') (first | assumption | (refine KS2.out _ ?_; repeat (first | exact Below.refl _ _ | exact impl_body_nested.fin6 (by assumption) | exact impl_body_nested.stepB (impl_body_nested.fin6 (by assumption)) hb1 | apply below_drew1 | apply pw_below_drewN))) (first | (go_at_call 49; refine (impl_insideOf.calls x.A x.c x.l _ _ u _ ?sc HX.out.1.2.2.2.1 HU.out).mono ?_; (case sc => refine Kd.C_below HX.out.1.2.2.1 ?_; repeat (first | exact Below.refl _ _ | exact impl_body_nested.fin6 (by assumption) | apply below_drew1 | apply pw_below_drewN)); rintro e w1 ⟨rfl, hb1⟩))
                  have hb3 : Below wr.heap.size wr w1 := impl_body_nested.fin6 (by assumption)
                  have HN3 := Aside0.mk (Chain.below hb3 HN.out)
                  have HM3 := Aside0.mk (Chain.below hb3 HM.out)
                  have HX3 := Aside0.mk (Chain.below hb3 HX.out)
                  have HB3 := Aside0.mk (HB2.out.trans (hb3.mono HB2.out.size))
                  have HF3 := Aside0.mk ((hb3.block F (Array.getElem?_eq_some_iff.1 HF.out).1).trans HF.out)
                  clear hb3
                  have x1 := HX3.out.1.2.1
                  clear bx bm
                  go_wp2
                  · rename_i hu1
                    go_ret
                    refine ⟨?_, HB3.out⟩
                    have e : (m :: r).all (nestedM n ns) = false := by
                      rw [List.all_cons, nestedM, HA2.out, List.all_cons, HU'.out, decide_eq_false hxb]
                      simp only [bne_iff_ne, ne_eq] at hu1
                      rw [decide_eq_false hu1]; simp
                    rw [HR.out, e]; rfl
                  · rename_i hu1
                    have hu2 : u = -1 := by simpa using hu1
                    go_roundg k2
                    case measure => have := HK2.out; simp at this; omega
                    case rel => exact ⟨mid', rfl, by have := HK2.out; simp at this; omega, HX3.out.2, HN3.out, HM3.out, HF3.out, by rw [HA2.out, List.all_cons]; simp [HU'.out, hu2], HB3.out⟩
end

end Go.Proofs.Ytehkklmacglelaa.PA
namespace Go.Proofs.Ytehkklmacglelaa.PA
open Go.RowKit Go.Proofs.YtehkklmacglelaaW.PrintWords Go.Proofs.YtehkklmacglelaaW.PrintLast Go.Proofs.YtehkklmacglelaaW.PrintMore
attribute [local go_sem] max2_int min2_int max_two min_two max_three min_three max_four min_four   -- for this text's walks alone
set_option linter.unusedVariables false
set_option linter.unusedSimpArgs false

/-! ### impl_bodyOf: function 68 -/
section
open Edges Go.Shelf
attribute [local go_sem] Oper.semAt_some
/-- The holes' places among each other, of two holes at most. -/
def nestP (l : List S25) : List (List S25) → Bool
  | [] => true
  | [a] => decide (insF l (hd0 a) = 1)
  | [a, b] => (decide (insF l (hd0 a) = 1) && decide (insF b (hd0 a) = -1)) && (decide (insF l (hd0 b) = 1) && decide (insF a (hd0 b) = -1))
  | _ => false
theorem nestedN_P (n : Nd) : ∀ ns : List Nd, ns.length ≤ 2 → (ns.map Nd.b).Nodup → nestedN n ns = nestP n.l (ns.map Nd.l)
  | [], _, _ => rfl
  | [a], _, _ => by simp [nestedN, nestedM, nestP]
  | [a, b], _, h => by
    have hab : ¬ a.b = b.b := by simpa using h
    have hba : ¬ b.b = a.b := fun e => hab e.symm
    simp [nestedN, nestedM, nestP, hab, hba]
  | _ :: _ :: _ :: _, h, _ => by simp at h
def bodyOk (l : List S25) (hs : List (List S25)) : Bool :=
  decide (hs.length ≤ 2) && (impl_LoopOk.all l && (hs.all impl_LoopOk.all && (apartB (l :: hs) && nestP l hs)))
def edgeRow (l : List S25) : List impl_LoopOk.E := upto l l.length
def bodyEdges (ls : List (List S25)) : List impl_LoopOk.E := ls.flatMap edgeRow
def bodyRows (pre : List impl_LoopOk.E) : List Value := pre.flatMap fun x => [.int .i64 x.2.1.f0, .int .i64 x.2.1.f1, .int .i64 x.2.2.f0, .int .i64 x.2.2.f1]
theorem bodyOk_no1 {l : List S25} {hs : List (List S25)} (h : ¬ hs.length ≤ 2) : bodyOk l hs = false := by rw [bodyOk, decide_eq_false h]; rfl
theorem bodyOk_no2 {l : List S25} {hs : List (List S25)} (h : impl_LoopOk.all l = false) : bodyOk l hs = false := by rw [bodyOk, h]; simp
theorem bodyOk_no3 {l : List S25} {hs : List (List S25)} {i : Nat} (hi : i < hs.length) (h : impl_LoopOk.all (rd_L4 hs i) = false) : bodyOk l hs = false := by
  have : hs.all impl_LoopOk.all = false := by
    rw [List.all_eq_false]
    refine ⟨hs[i], List.getElem_mem hi, ?_⟩
    rw [rd_L4, Int.toNat_natCast, List.getD_eq_getElem?_getD, List.getElem?_eq_getElem hi, Option.getD_some] at h
    rw [h]; decide
  rw [bodyOk, this]; simp
/-- What is behind the first loop: the body's block g, the variable's block v. -/
structure Lay (w W : World) (g : Nat) (A0 : Option Addr) (c0 : Nat) (l0 : List S25) (l1 : List (List S25)) (i : Nat) (last : Value) : Prop where
  below : Below w.heap.size w W
  var : Boxed W (g + 1) 84 (.pointer (some ⟨g, 0, none⟩))
  st : (i = 0 ∧ last = .pointer (some ⟨g, 0, none⟩) ∧ W.heap[g]? = some (.cells #[.slice A0 l0.length c0, .pointer none, .slice none 0 0] 94 (0, 0))) ∨
    (i = 1 ∧ ∃ r1 A1 c1, g + 1 < r1 ∧ last = .pointer (some ⟨r1, 0, none⟩) ∧ W.heap[g]? = some (.cells #[.slice A0 l0.length c0, .pointer (some ⟨r1, 0, none⟩), .slice none 0 0] 94 (0, 0)) ∧
      W.heap[r1]? = some (.cells #[.slice A1 (rd_L4 l1 0).length c1, .pointer none] 92 (0, 0)) ∧ Kd.C k25 w A1 (rd_L4 l1 0).length (rd_L4 l1 0) ∧ (rd_L4 l1 0).length ≤ c1) ∨
    (i = 2 ∧ ∃ r1 A1 c1 r2 A2 c2, g + 1 < r1 ∧ r1 < r2 ∧ last = .pointer (some ⟨r2, 0, none⟩) ∧ W.heap[g]? = some (.cells #[.slice A0 l0.length c0, .pointer (some ⟨r1, 0, none⟩), .slice none 0 0] 94 (0, 0)) ∧
      W.heap[r1]? = some (.cells #[.slice A1 (rd_L4 l1 0).length c1, .pointer (some ⟨r2, 0, none⟩)] 92 (0, 0)) ∧ Kd.C k25 w A1 (rd_L4 l1 0).length (rd_L4 l1 0) ∧ (rd_L4 l1 0).length ≤ c1 ∧
      W.heap[r2]? = some (.cells #[.slice A2 (rd_L4 l1 1).length c2, .pointer none] 92 (0, 0)) ∧ Kd.C k25 w A2 (rd_L4 l1 1).length (rd_L4 l1 1) ∧ (rd_L4 l1 1).length ≤ c2)
theorem take_all {l : List (List S25)} {p : List S25 → Bool} {i : Nat} (hi : i < l.length) (h : (l.take i).all p = true) (hp : p (rd_L4 l i) = true) : (l.take (i + 1)).all p = true := by
  rw [rd_L4, Int.toNat_natCast, List.getD_eq_getElem?_getD, List.getElem?_eq_getElem hi, Option.getD_some] at hp
  rw [List.take_add_one, List.getElem?_eq_getElem hi, List.all_append, h]; simp [hp]
def Rings (W : World) : List Nd → Prop
  | [] => True
  | m :: r => W.heap[m.b]? = some (.cells #[.slice m.A m.l.length m.c, Nd.ptr r] 92 (0, 0)) ∧ Rings W r
theorem Rings.mono {W W' : World} : ∀ {ns : List Nd}, (∀ m ∈ ns, W'.heap[m.b]? = W.heap[m.b]?) → Rings W ns → Rings W' ns
  | [], _, _ => trivial
  | m :: _, h, hr => ⟨(h m (List.mem_cons_self ..)).trans hr.1, Rings.mono (fun x hx => h x (List.mem_cons_of_mem _ hx)) hr.2⟩
theorem Rings.lt {W : World} : ∀ {ns : List Nd}, Rings W ns → ∀ m ∈ ns, m.b < W.heap.size
  | _ :: _, hr, m, hm => by
    rcases List.mem_cons.1 hm with rfl | hm
    · exact (Array.getElem?_eq_some_iff.1 hr.1).1
    · exact Rings.lt hr.2 m hm
theorem Rings.blk {W : World} : ∀ {ns : List Nd}, Rings W ns → ∀ m ∈ ns, ∃ cs, W.heap[m.b]? = some (.cells cs 92 (0, 0))
  | _ :: _, hr, m, hm => by
    rcases List.mem_cons.1 hm with rfl | hm
    · exact ⟨_, hr.1⟩
    · exact Rings.blk hr.2 m hm
theorem Rings.below {W W' : World} {ns : List Nd} (h : Rings W ns) (hb : Below W.heap.size W W') : Rings W' ns := h.mono fun m hm => hb.block _ (h.lt m hm)
theorem rings_own {β : Type} (ns : List Nd) : Own (fun (_ : β) W => Rings W ns) := fun _ X Y row hs hg hrow => hs.mono fun m hm => hg.block _ (hs.lt m hm) (fun e' => by
  obtain ⟨cs, hc⟩ := hs.blk m hm
  obtain ⟨o, ho, hc'⟩ := hrow m.b e'.symm
  rw [hc] at ho; cases ho; cases hc')
/-- What the holes' loops are read of: the points as they came in. -/
def Ins (w : World) (g : Nat) (ns : List Nd) : Prop := ∀ m ∈ ns, g + 1 < m.b ∧ Kd.C k25 w m.A m.l.length m.l ∧ m.l.length ≤ m.c
theorem Rings.chain {w W : World} {g : Nat} (hb : Below w.heap.size w W) : ∀ {ns : List Nd}, Ins w g ns → Rings W ns → Chain W ns
  | [], _, _ => trivial
  | m :: r, hi, hr => ⟨⟨blk_cell hr.1 0, blk_cell hr.1 1, Kd.C_below (hi m (List.mem_cons_self ..)).2.1 hb, (hi m (List.mem_cons_self ..)).2.2, _, _, hr.1⟩, Rings.chain hb (fun x hx => hi x (List.mem_cons_of_mem _ hx)) hr.2⟩
theorem Chain.drop {W : World} {m : Nd} {r : List Nd} : ∀ {pre : List Nd}, Chain W (pre ++ m :: r) → Chain W (m :: r)
  | [], h => h
  | _ :: _, h => Chain.drop h.2
theorem blk_not_row {W : World} {B t e : Nat} {cs : Array Value} (h : W.heap[B]? = some (.cells cs t (0, 0))) (hte : t ≠ e) {base size k : Nat} {v : Value} {xs : List Value} (hr : W.ownsRow base e size v k xs) : some B ≠ v.ownBlock := by
  rcases hr.2 with ⟨rfl, _⟩ | ⟨g, cap, cur, rfl, _, hgb, _⟩
  · simp [Value.ownBlock]
  · intro e'
    obtain rfl : B = g := by simpa [Value.ownBlock] using e'
    have := h.symm.trans hgb
    simp at this
    exact hte this.2
theorem holds3_own {β : Type} (n₀ g : Nat) (t e : TypeId) (f0 f1 : Value) (size : Nat) (k : β → Nat) (f : β → List Value) : Own (fun s W => ∃ v, W.heap[g]? = some (.cells #[f0, f1, v] t (0, 0)) ∧ W.ownsRow n₀ e size v (k s) (f s)) := by
  rintro s X Y row ⟨v, hv, hr⟩ hg hrow
  refine ⟨v, (hg.block g (Array.getElem?_eq_some_iff.1 hv).1 (fun e' => ?_)).trans hv, hr.kept hg ?_⟩
  · obtain ⟨o, ho, hc⟩ := hrow g e'.symm
    rw [hv] at ho; cases ho; cases hc
  · rcases hr.2 with ⟨rfl, _⟩ | ⟨q, cap, cur, rfl, _, hgb, _⟩
    · exact .inl rfl
    · refine .inr fun e' => ?_
      obtain ⟨o, ho, hc⟩ := hrow q (by simpa [Value.ownBlock] using e'.symm)
      rw [hgb] at ho; cases ho; cases hc
theorem Lay.chain {w W : World} {g : Nat} {A0 : Option Addr} {c0 : Nat} {l0 : List S25} {l1 : List (List S25)} {last : Value} (h : Lay w W g A0 c0 l0 l1 l1.length last)
    (hr0 : Kd.C k25 w A0 l0.length l0) (hc0 : l0.length ≤ c0) :
    ∃ ns, Chain W (⟨g, A0, c0, l0⟩ :: ns) ∧ ns.map Nd.l = l1 ∧ (ns.map Nd.b).Nodup ∧ ns.length ≤ 2 ∧ W.heap[g]? = some (.cells #[.slice A0 l0.length c0, Nd.ptr ns, .slice none 0 0] 94 (0, 0)) ∧ Rings W ns ∧ Ins w g ns := by
  rcases h.st with ⟨e, _, hG⟩ | ⟨e, r1, A1, c1, h1, _, hG, hR, hC, hc⟩ | ⟨e, r1, A1, c1, r2, A2, c2, h1, h12, _, hG, hR, hC, hc, hR2, hC2, hc2⟩
  · obtain rfl : l1 = [] := List.eq_nil_of_length_eq_zero e
    exact ⟨[], ⟨⟨blk_cell hG 0, blk_cell hG 1, Kd.C_below hr0 h.below, hc0, _, _, hG⟩, trivial⟩, rfl, by simp, by simp, hG, trivial, by simp [Ins]⟩
  · obtain ⟨a, rfl⟩ := List.length_eq_one_iff.1 e
    refine ⟨[⟨r1, A1, c1, a⟩], ⟨⟨blk_cell hG 0, blk_cell hG 1, Kd.C_below hr0 h.below, hc0, _, _, hG⟩, ⟨blk_cell hR 0, blk_cell hR 1, Kd.C_below hC h.below, hc, _, _, hR⟩, trivial⟩, rfl, by simp, by simp, hG, ⟨hR, trivial⟩, fun m hm => ?_⟩
    obtain rfl := List.mem_singleton.1 hm
    exact ⟨h1, hC, hc⟩
  · obtain ⟨a, b, rfl⟩ : ∃ a b, l1 = [a, b] := by match l1, e with | [a, b], _ => exact ⟨a, b, rfl⟩
    refine ⟨[⟨r1, A1, c1, a⟩, ⟨r2, A2, c2, b⟩], ⟨⟨blk_cell hG 0, blk_cell hG 1, Kd.C_below hr0 h.below, hc0, _, _, hG⟩, ⟨blk_cell hR 0, blk_cell hR 1, Kd.C_below hC h.below, hc, _, _, hR⟩, ⟨blk_cell hR2 0, blk_cell hR2 1, Kd.C_below hC2 h.below, hc2, _, _, hR2⟩, trivial⟩, rfl, by simp; omega, by simp, hG, ⟨hR, hR2, trivial⟩, fun m hm => ?_⟩
    rcases List.mem_cons.1 hm with rfl | hm
    · exact ⟨h1, hC, hc⟩
    · obtain rfl := List.mem_singleton.1 hm
      exact ⟨by show g + 1 < r2; omega, hC2, hc2⟩
def markOf (D : Nat) : Deferred := { target := .collected D, args := #[] }
/-- The marks that the ranges have left. -/
def Marks (n₀ : Nat) (Ds : List Nat) (W : World) : Prop := Ds.Nodup ∧ ∀ D ∈ Ds, n₀ ≤ D ∧ W.heap[D]? = some (.deferred (some []))
theorem leaves_marks {F : Fence} {n : Nat} {P : Program} {fn : Func} {tmps : Array Value} {R : Ending → World → Prop} {n₀ : Nat} (St : World → Prop)
    (hput : ∀ W D, n₀ ≤ D → W.heap[D]? = some (.deferred (some [])) → St W → St (W.putObj D (.deferred none))) (hend : ∀ W, St W → LeavesIn F n P fn tmps R [] .returning W) :
    ∀ (Ds : List Nat) (W : World), Marks n₀ Ds W → St W → LeavesInM F n P fn tmps R (Ds.map markOf) .returning W
  | [], W, _, h => hend W h
  | D :: Ds, W, hm, h => ⟨by simp, .inl ⟨D, _, rfl, run_takeDeferred (hm.2 D (List.mem_cons_self ..)).2, leaves_marks St hput hend Ds _ ⟨(List.nodup_cons.1 hm.1).2, fun D' h' => ⟨(hm.2 D' (List.mem_cons_of_mem _ h')).1,
      (World.putObj_heap_other (fun e => (List.nodup_cons.1 hm.1).1 (by first | exact e ▸ h' | exact e.symm ▸ h'))).trans (hm.2 D' (List.mem_cons_of_mem _ h')).2⟩⟩ (hput W D (hm.2 D (List.mem_cons_self ..)).1 (hm.2 D (List.mem_cons_self ..)).2 h)⟩⟩
theorem wpAnyIn_inv {F : Fence} {n : Nat} {P : Program} {md : Region.Mode} {ops : Array Oper} {Q : Exit → Act → World → Prop} (Inv : Array Bool → Act → World → Prop)
    (hdone : ∀ L a w, Inv L a w → Region.ready md ops L = [] → Q .normal a w)
    (hstep : ∀ L a w i, Inv L a w → i ∈ Region.ready md ops L → wpOpIn F n P ops Q i (Inv (L.setIfInBounds i true)) a w) :
    ∀ (fuel : Nat) (L : Array Bool) (a : Act) (w : World), L.toList.count false ≤ fuel → (∀ i, L.getD i true = false → i < L.size) → Inv L a w → wpAnyIn F n P md ops Q fuel L a w
  | 0, L, a, w, hc, hs, h => by
    have hr : Region.ready md ops L = [] := by
      rw [List.eq_nil_iff_forall_not_mem]
      intro j hj
      have h1 := (mem_ready.1 hj).1
      have h2 := hs j h1
      have h3 : L[j] = false := by simpa [h2] using h1
      have h4 : false ∈ L.toList := by rw [← h3]; simp
      have := List.count_pos_iff.2 h4
      omega
    exact ⟨hr, hdone L a w h hr⟩
  | fuel + 1, L, a, w, hc, hs, h => by
    refine ⟨hdone L a w h, fun i hi => wpOpIn_mono (fun a' w' h' => wpAnyIn_inv Inv hdone hstep fuel _ a' w' ?_ ?_ h') (hstep L a w i h hi)⟩
    · have h1 := (mem_ready.1 hi).1
      have h2 := hs i h1
      have h3 : L[i] = false := by simpa [h2] using h1
      have h4 := List.count_set (a := true) (b := false) (l := L.toList) (i := i) (by simpa using h2)
      simp only [Array.toList_setIfInBounds]
      have h5 : (L.toList[i]'(by simpa using h2)) = false := by rw [Array.getElem_toList]; exact h3
      rw [h4, h5]
      rw [if_pos (by decide), if_neg (by decide)]; omega
    · intro j hj
      by_cases e : i = j
      · subst e
        have h2 := hs i (mem_ready.1 hi).1
        simp [h2] at hj
      · have h2 := hs j (by rw [getD_set_ne true e] at hj; exact hj)
        simpa using h2
theorem ownsRow_alloc {X : World} {base e size k : Nat} {v : Value} {xs : List Value} {o : Obj} (h : X.ownsRow base e size v k xs) : (X.drew.alloc o).ownsRow base e size v k xs := World.ownsRow.alloc (w := X.drew) h o
theorem wpIn_append_own {F : Fence} {n : Nat} {P : Program} (w : World) {o : Oper} {a : Act} {K : Act → World → Prop} {Q : Exit → Act → World → Prop}
    (s x : Operand) (t : TypeId) (hop : o.op = Op.call { callee := Callee.builtin Builtin.append, args := #[s, x], argTypes := #[t, t] })
    (base : Nat) (e : TypeId) (i : TypeInfo) (z : Value) (size bytes : Nat) (h1 : P.underlying t = some (.slice e)) (h2 : P.info? e = some i) (h3 : i.zero = some z) (h4 : i.size = size) (h5 : i.bytes = bytes) (h6 : z.cells.size = size) (h7 : 0 < size)
    (v : Value) (k : Nat) (xs : List Value) (hs : a.eval s = v) (hown : w.ownsRow base e size v k xs) (ad : Addr) (m c : Nat) (news : List Value) (hx : a.eval x = .slice (some ad) m c) (hn : news.length = m * size)
    (hc : ∀ j u, news[j]? = some u → w.cell? (ad.add j) = some u) (h1c : ∀ u ∈ news, u.oneCell' = true) (b1 : k + m ≤ maxLen) (b2 : (k + m) * bytes ≤ 140737488355328) (b3 : base ≤ w.heap.size)
    (hK : ∀ v' w', w'.ownsRow base e size v' (k + m) (xs ++ news) → w.grownBy w' v.ownBlock → (v' = .slice none 0 0 ↔ v = .slice none 0 0 ∧ m = 0) → K (a.put o.dst v') w') : o.wpIn F n P a w K Q := by
  obtain ⟨v', w', hrun, r1, r2, r3⟩ := run_append_own (P := P) w base t o.type e i z size bytes h1 h2 h3 h4 h5 h6 h7 v k xs hown ad m c news hn hc h1c b1 b2 b3
  unfold Oper.wpIn
  refine ⟨?_, ?_⟩
  · simp [Oper.about, hop, resolve, Target.leads, Sem.run_pure]
  · rw [Oper.semAt_plain F _ _ (by rw [hop]; intro c hc'; cases hc')]
    simp [execOp, hop, resolve, invoke, builtin, hs, hx, hrun, Result.andThen]
    exact hK _ _ r1 r2 r3
theorem bodyEdges_len : ∀ (ls : List (List S25)), (∀ l ∈ ls, l.length ≤ 8) → (bodyEdges ls).length ≤ 8 * ls.length
  | [], _ => by simp [bodyEdges]
  | l :: r, h => by
    have h1 := bodyEdges_len r (fun x hx => h x (List.mem_cons_of_mem _ hx))
    have h2 := h l (List.mem_cons_self ..)
    have e : bodyEdges (l :: r) = upto l l.length ++ bodyEdges r := by simp [bodyEdges, edgeRow]
    rw [e, List.length_append, upto_length, List.length_cons]; omega
theorem marks_own {β : Type} {B : Nat} : ∀ {Ds : List Nat}, (∀ D ∈ Ds, D < B) → OwnFrom B (fun (_ : β) X => ∀ D ∈ Ds, X.heap[D]? = some (.deferred (some []))) := fun h s X Y row hs hg hr D hD =>
  old_own (h D hD) _ s X Y row (hs D hD) hg hr
/-- Where a round of the last loop stands: ahead of what is to be appended, behind it, behind append, behind the store. -/
def Ph (n₀ g : Nat) (X : World) (v : Value) (k : Nat) (xs row : List Value) (sg : Array Value) (b6 b7 b10 : Bool) (s80 s81 : Value) (w' : World) : Prop :=
  (b6 = false ∧ b7 = false ∧ b10 = false ∧ w' = X.drew) ∨ (b6 = true ∧ b7 = false ∧ b10 = false ∧ w' = X.drew.alloc (.cells sg 35) ∧ s80 = .slice (some ⟨X.heap.size, 0, none⟩) 1 1) ∨
  (b6 = true ∧ b7 = true ∧ b10 = false ∧ w'.ownsRow n₀ 35 4 s81 (k + 1) (xs ++ row) ∧ (X.drew.alloc (.cells sg 35)).grownBy w' v.ownBlock) ∨
  (b6 = true ∧ b7 = true ∧ b10 = true ∧ ∃ w4, w4.ownsRow n₀ 35 4 s81 (k + 1) (xs ++ row) ∧ (X.drew.alloc (.cells sg 35)).grownBy w4 v.ownBlock ∧ w' = w4.setCell ⟨g, 2, none⟩ s81)
theorem grown_blk {X Y : World} {v : Value} {n₀ k B t : Nat} {cs : Array Value} {xs : List Value} {o : Obj} (hB : X.heap[B]? = some (.cells cs t (0, 0))) (ht : t ≠ 35) (ho : X.ownsRow n₀ 35 4 v k xs) (hg : (X.drew.alloc o).grownBy Y v.ownBlock) : Y.heap[B]? = some (.cells cs t (0, 0)) := by
  have h1 : (X.drew.alloc o).heap[B]? = some (.cells cs t (0, 0)) := blk_alloc (w := X.drew) hB o
  exact (hg.block B (Array.getElem?_eq_some_iff.1 h1).1 (blk_not_row hB ht ho)).trans h1
theorem body_appended {X w1 : World} {n₀ g : Nat} {f0 f1 v v' : Value} {k m : Nat} {xs ys : List Value} {tmp : Array Value} (hv : X.heap[g]? = some (.cells #[f0, f1, v] 94 (0, 0))) (hB : n₀ ≤ g)
    (hrow : X.ownsRow n₀ 35 4 v k xs) (hn₀ : n₀ ≤ X.heap.size) (hown' : w1.ownsRow n₀ 35 4 v' m ys) (hgrow : (X.drew.alloc (.cells tmp 35)).grownBy w1 v.ownBlock) :
    (w1.setCell ⟨g, 2, none⟩ v').heap[g]? = some (.cells #[f0, f1, v'] 94 (0, 0)) ∧ (w1.setCell ⟨g, 2, none⟩ v').ownsRow n₀ 35 4 v' m ys ∧ KeepsOthers X (w1.setCell ⟨g, 2, none⟩ v') ∧ Below n₀ X (w1.setCell ⟨g, 2, none⟩ v') := by
  have hv1 := grown_blk hv (by decide) hrow hgrow
  have gs : ∀ (Y : World) (u : Value), Y.grownBy (Y.setCell ⟨g, 2, none⟩ u) (some g) := fun Y u => ⟨rfl, rfl, rfl, (KeepsWalks.setCell Y _ u).size, fun k _ hk => Below.heap_setCell _ _ _ k (fun e => hk (by rw [e]))⟩
  refine ⟨blk_put hv1 2 _ rfl, hown'.kept (gs w1 v') (.inr (blk_not_row hv1 (by decide) hown').symm), ?_, ?_⟩
  · refine ((KeepsOthers.drew X).trans ((KeepsOthers.alloc X.drew (.cells tmp 35)).trans (KeepsOthers.of_grownBy hgrow fun j o ej hj => ?_))).trans (KeepsOthers.setCell _ _ _)
    rcases (ownsRow_alloc (o := .cells tmp 35) hrow).2 with ⟨rfl, _⟩ | ⟨q, cap, cur, rfl, _, hgb, _⟩
    · simp [Value.ownBlock] at ej
    · obtain rfl : q = j := by simpa [Value.ownBlock] using ej
      rw [hgb] at hj; cases hj; rfl
  · refine ((((Below.refl n₀ X).drew.alloc hn₀ (.cells tmp 35)).grown hgrow (by simp; omega) fun j ej => ?_).setCell (p := ⟨g, 2, none⟩) hB v')
    rcases hrow.2 with ⟨rfl, _⟩ | ⟨q, cap, cur, rfl, hb, _, _⟩
    · simp [Value.ownBlock] at ej
    · obtain rfl : q = j := by simpa [Value.ownBlock] using ej
      exact hb
theorem Ph.look {n₀ g : Nat} {X w' : World} {v s80 s81 : Value} {k : Nat} {xs row : List Value} {sg : Array Value} {b6 b7 b10 : Bool} (h : Ph n₀ g X v k xs row sg b6 b7 b10 s80 s81 w') (h10 : b10 = false) (ho : X.ownsRow n₀ 35 4 v k xs)
    {B t : Nat} {cs : Array Value} (hB : X.heap[B]? = some (.cells cs t (0, 0))) (ht : t ≠ 35) : w'.heap[B]? = some (.cells cs t (0, 0)) := by
  rcases h with ⟨_, _, _, rfl⟩ | ⟨_, _, _, rfl, _⟩ | ⟨_, _, _, h1, h2⟩ | ⟨_, _, h, _⟩
  · exact hB
  · exact blk_alloc (w := X.drew) hB _
  · exact grown_blk hB ht ho h2
  · rw [h10] at h; cases h
theorem rounds_ind {F : Fence} {n : Nat} {P : Program} {c : Code} {Q : Exit → Act → World → Prop} (I : Nat → Act → World → Prop) (h0 : ∀ a w, I 0 a w → c.wpIn F n P (Exit.then (fun _ _ => False) Q) a w)
    (hs : ∀ k a w, I (k + 1) a w → c.wpIn F n P (Exit.then (I k) Q) a w) : ∀ k a w, I k a w → Code.roundsIn F n P c Q (k + 1) a w
  | 0, a, w, h => h0 a w h
  | k + 1, a, w, h => Code.wpIn_mono (fun e a' w' q => by cases e <;> first | exact rounds_ind I h0 hs k _ _ q | exact q) (hs k a w h)
set_option maxRecDepth 100000 in
set_option maxHeartbeats 8000000 in
theorem impl_bodyOf.calls (A0 : Option Addr) (c0 : Nat) (l0 : List S25) (A1 : Option Addr) (c1 : Nat) (l1 : List (List S25)) (w : World)
    (hr0 : Kd.C k25 w A0 l0.length l0) (hc0 : l0.length ≤ c0) (hr1 : Kd.C (Kd.slice 25 k25) w A1 l1.length l1) (hc1 : l1.length ≤ c1) :
    Calls Try.prog 68 #[.agg #[.slice A0 l0.length c0, .slice A1 l1.length c1]] w fun e w' =>
      ∃ v, e = .returned (.tuple #[v, .bool (bodyOk l0 l1)]) ∧ Below w.heap.size w w' ∧ (bodyOk l0 l1 = true → ∃ n ns ev, v = .pointer (some ⟨n.b, 0, none⟩) ∧ n.l = l0 ∧ ns.map Nd.l = l1 ∧ Chain w' (n :: ns) ∧ w'.cell? ⟨n.b, 2, none⟩ = some ev ∧
        w'.ownsRow w.heap.size 35 4 ev (bodyEdges (l0 :: l1)).length (bodyRows (bodyEdges (l0 :: l1)))) := by
  refine (callsIn_wide (n := 8)).1 ?_
  have hu1 := Try.underlying25
  have hu2 := Try.underlying35
  have hu3 := Try.underlying92
  have hu4 := Try.underlying94
  have hu5 := Try.underlying50
  refine callsIn_of_wp_marks Try.func68 rfl trivial ?_ rfl
  simp only [Try.ntmps68, List.size_toArray, List.length_cons, List.length_nil, Nat.reduceAdd, Nat.reduceSub, Array.replicate_succ, Array.replicate_zero, List.push_toArray, List.append_toArray, List.nil_append, List.cons_append]
  obtain ⟨i0, hi0, hz0, hz1, hz2⟩ := info_parts info35
  have hu31 : Try.prog.underlying 31 = some (.slice 35) := by kernel_rfl
  have HI := Aside0.mk (And.intro hi0 (And.intro hz0 (And.intro hz1 hz2)))
  clear hi0 hz0 hz1 hz2
  by_cases h2 : l1.length ≤ 2
  · obtain ⟨b, hb⟩ : ∃ b, impl_LoopOk.all l0 = b := ⟨_, rfl⟩
    have HB := Aside0.mk hb
    have hd : decide ((2 : Int) < (l1.length : Int)) = false := decide_eq_false (by omega)
    have hbf : impl_LoopOk.f l0 = some b := by rw [impl_LoopOk.f, hb]
    clear hb
    cases b
    · gi_wp2_with (first | (refine ⟨trivial, ?_⟩; gi_at_call 47; refine (callsIn_wide.2 (impl_LoopOk.calls _ _ _ _ _ (Kd.C_below hr0 ((Below.refl _ w).alloc (Nat.le_refl _) _)) hc0 hbf)).mono ?_; rintro e w1 ⟨rfl, hb1⟩))
      exact ⟨.tuple #[.pointer none, .bool false], by simp [results, Try.f68, go_sem], .pointer none, by rw [bodyOk_no2 HB.out], ((Below.refl _ w).alloc (Nat.le_refl _) _).trans (hb1.mono (by simp)), fun h => by rw [bodyOk_no2 HB.out] at h; cases h⟩
    · gi_wp2_with (first | (refine ⟨trivial, ?_⟩; gi_at_call 47; refine (callsIn_wide.2 (impl_LoopOk.calls _ _ _ _ _ (Kd.C_below hr0 ((Below.refl _ w).alloc (Nat.le_refl _) _)) hc0 hbf)).mono ?_; rintro e w1 ⟨rfl, hb1⟩; have bP := blk_below (blk_new w (.cells #[.slice A0 l0.length c0, .slice A1 l1.length c1] 50)) hb1; have cP0 : w1.cell? ⟨w.heap.size, 0, none⟩ = some (.slice A0 l0.length c0) := blk_cell bP 0; have cP1 : w1.cell? ⟨w.heap.size, 1, none⟩ = some (.slice A1 l1.length c1) := blk_cell bP 1; have cP1' : ∀ o o', ((w1.alloc o).alloc o').cell? ⟨w.heap.size, 1, none⟩ = some (.slice A1 l1.length c1) := fun o o' => blk_cell (blk_alloc (blk_alloc bP o) o') 1; have hlt1 := hb1.size; simp only [World.size_alloc] at hlt1))
      clear cP0 cP1 cP1' hbf hd
      have hw1 : Below w.heap.size w w1 := ((Below.refl _ w).alloc (Nat.le_refl _) _).trans (hb1.mono (by simp))
      have hL0 : Lay w ((w1.alloc (.cells #[.slice A0 l0.length c0, .pointer none, .slice none 0 0] 94)).alloc (.cells #[.pointer (some ⟨w1.heap.size, 0, none⟩)] 84)) w1.heap.size A0 c0 l0 l1 0 (.pointer (some ⟨w1.heap.size, 0, none⟩)) :=
        ⟨(hw1.alloc hw1.size _).alloc (by simp; omega) _, by have := Boxed.new (w1.alloc (.cells #[.slice A0 l0.length c0, .pointer none, .slice none 0 0] 94)) 84 (.pointer (some ⟨w1.heap.size, 0, none⟩)); simpa only [World.size_alloc] using this, .inl ⟨rfl, rfl, blk_alloc (blk_new w1 _) _⟩⟩
      obtain ⟨g, hg⟩ : ∃ g, w1.heap.size = g := ⟨_, rfl⟩
      have hgl : w.heap.size < g := by omega
      rw [hg] at hL0 ⊢
      obtain ⟨W0, hW0⟩ : ∃ W0, (w1.alloc (.cells #[.slice A0 l0.length c0, .pointer none, .slice none 0 0] 94)).alloc (.cells #[.pointer (some ⟨g, 0, none⟩)] 84) = W0 := ⟨_, rfl⟩
      rw [hW0] at hL0 ⊢
      clear hW0 hg hw1 hb1 bP hlt1
      gi_loopw [5, 32] (fun v5 v32 wr => ∃ i : Nat, i ≤ l1.length ∧ v32 = .int .i64 i ∧ (l1.take i).all impl_LoopOk.all = true ∧ Lay w wr g A0 c0 l0 l1 i v5)
        (fun _ v32 _ => l1.length - (intOf v32).toNat)
      case atStart => exact ⟨0, Nat.zero_le _, rfl, rfl, hL0⟩
      case round =>
        clear hL0
        obtain ⟨i, hi, rfl, hall, hL⟩ := hrel
        by_cases hlt : i < l1.length
        · obtain ⟨ad, Ah, ch, rfl, hx, hlh, hch⟩ := at_L4 hr1 (i : Int) (by omega) (by omega)
          rw [Int.toNat_natCast] at hx
          have hxr : wr.cell? (ad.add i) = some (.slice Ah (rd_L4 l1 i).length ch) := (hL.below.cell (World.block_lt_of_cell? w _ hx)).trans hx
          have hCr := Kd.C_below hch hL.below
          obtain ⟨b, hb⟩ : ∃ b, impl_LoopOk.all (rd_L4 l1 i) = b := ⟨_, rfl⟩
          have HB2 := Aside0.mk hb
          have hbf : impl_LoopOk.f (rd_L4 l1 i) = some b := by rw [impl_LoopOk.f, hb]
          clear hb hx
          have hsz := hL.below.size
          cases b
          · gi_wp2_with (first | (refine ⟨trivial, ?_⟩; gi_at_call 47; refine (callsIn_wide.2 (impl_LoopOk.calls _ _ _ _ _ hCr hlh hbf)).mono ?_; rintro e w2 ⟨rfl, hb2⟩))
            exact ⟨.tuple #[.pointer none, .bool false], by simp [results, Try.f68, go_sem], .pointer none, by rw [bodyOk_no3 hlt HB2.out], hL.below.trans (hb2.mono hsz), fun h => by rw [bodyOk_no3 hlt HB2.out] at h; cases h⟩
          · rcases hL.st with ⟨rfl, rfl, hG⟩ | ⟨rfl, r1, A2, c2, hr1', rfl, hG, hR1, hC1, hc1'⟩ | ⟨rfl, _⟩
            · rw [Addr.add_zero'] at hxr
              gi_wp2_with (first | (refine ⟨trivial, ?_⟩; gi_at_call 47; refine (callsIn_wide.2 (impl_LoopOk.calls _ _ _ _ _ hCr hlh hbf)).mono ?_; rintro e w2 ⟨rfl, hb2⟩; have hG2 := blk_below hG hb2; have k1 : ∀ o, (w2.alloc o).cell? ⟨g, 1, none⟩ = some (.pointer none) := fun o => blk_cell (blk_alloc hG2 o) 1; have f1 : ∀ o, (w2.alloc o).frozen? ⟨g, 1, none⟩ = false := fun o => blk_frozen (blk_alloc hG2 o) 1))
              have hv2 : Boxed w2 (g + 1) 84 _ := (hb2.block _ hL.var.lt).trans hL.var
              have hlt2 := hv2.lt
              have hbw := hL.below.trans (hb2.mono hsz)
              refine ⟨⟨1, by omega, rfl, take_all hlt hall HB2.out, ⟨(hbw.alloc hbw.size _).setCell (p := ⟨g, 1, none⟩) (by simp; omega) _, (Below.heap_setCell _ _ _ _ (by simp)).trans (hv2.alloc _), .inr (.inl ⟨rfl, w2.heap.size, Ah, ch, hlt2, rfl, blk_put (blk_alloc hG2 _) 1 _ rfl, (Below.heap_setCell _ _ _ _ (by simp; omega)).trans (blk_new w2 _), hch, hlh⟩)⟩⟩, by simp [intOf]; omega⟩
            · rw [show ad.add 1 = ⟨ad.block, ad.off + 1, none⟩ from rfl] at hxr
              gi_wp2_with (first | (refine ⟨trivial, ?_⟩; gi_at_call 47; refine (callsIn_wide.2 (impl_LoopOk.calls _ _ _ _ _ hCr hlh hbf)).mono ?_; rintro e w2 ⟨rfl, hb2⟩; have hR2 := blk_below hR1 hb2; have k1 : ∀ o, (w2.alloc o).cell? ⟨r1, 1, none⟩ = some (.pointer none) := fun o => blk_cell (blk_alloc hR2 o) 1; have f1 : ∀ o, (w2.alloc o).frozen? ⟨r1, 1, none⟩ = false := fun o => blk_frozen (blk_alloc hR2 o) 1))
              have hv2 : Boxed w2 (g + 1) 84 _ := (hb2.block _ hL.var.lt).trans hL.var
              have hlt2 := (Array.getElem?_eq_some_iff.1 hR2).1
              have hbw := hL.below.trans (hb2.mono hsz)
              have hG2 := blk_below hG hb2
              refine ⟨⟨2, by omega, rfl, take_all hlt hall HB2.out, ⟨(hbw.alloc hbw.size _).setCell (p := ⟨r1, 1, none⟩) (by simp; omega) _, (Below.heap_setCell _ _ _ _ (by simp; omega)).trans (hv2.alloc _), .inr (.inr ⟨rfl, r1, A2, c2, w2.heap.size, Ah, ch, hr1', hlt2, rfl, (Below.heap_setCell _ _ _ _ (by simp; omega)).trans (blk_alloc hG2 _), blk_put (blk_alloc hR2 _) 1 _ rfl, hC1, hc1', (Below.heap_setCell _ _ _ _ (by simp; omega)).trans (blk_new w2 _), hch, hlh⟩)⟩⟩, by simp [intOf]; omega⟩
            · omega
        · obtain rfl : i = l1.length := by omega
          have hall' : l1.all impl_LoopOk.all = true := by rwa [List.take_length] at hall
          obtain ⟨ns, hCh, hns, hnd, hn2, hG, hRi, hm⟩ := hL.chain hr0 hc0
          have hV := hL.var.cell
          have hmap : (⟨g, A0, c0, l0⟩ :: ns : List Nd).map Nd.l = l0 :: l1 := by rw [List.map_cons, hns]
          have hlen : ∀ m ∈ ns, 0 < m.l.length := fun m hm' => by
            have h1 : impl_LoopOk.all m.l = true := List.all_eq_true.1 hall' _ (hns ▸ List.mem_map_of_mem hm')
            simp only [impl_LoopOk.all, Bool.and_eq_true, decide_eq_true_eq] at h1
            omega
          have h8 : ∀ q ∈ (⟨g, A0, c0, l0⟩ :: ns : List Nd), q.l.length ≤ 8 := fun q hq => by
            have h1 : impl_LoopOk.all q.l = true := by
              rcases List.mem_cons.1 hq with rfl | hq
              · exact HB.out
              · exact List.all_eq_true.1 hall' _ (hns ▸ List.mem_map_of_mem hq)
            simp only [impl_LoopOk.all, Bool.and_eq_true, decide_eq_true_eq] at h1
            omega
          have H8 := Aside0.mk (And.intro h8 hn2)
          clear h8
          have HALL := Aside0.mk hall'
          have HMAP := Aside0.mk hmap
          have HNS := Aside0.mk hns
          have HM := Aside0.mk hm
          clear hall' hmap hns hm hall hi
          obtain ⟨a, ha⟩ : ∃ a, apartB ((⟨g, A0, c0, l0⟩ :: ns : List Nd).map Nd.l) = a := ⟨_, rfl⟩
          have hsz := hL.below.size
          cases a
          · have hno : bodyOk l0 l1 = false := by rw [HMAP.out] at ha; rw [bodyOk, ha]; simp
            gi_wp2_with (first | (refine ⟨trivial, ?_⟩; gi_at_call 85; refine (callsIn_wide.2 (impl_body_apart.calls ⟨g, A0, c0, l0⟩ ns wr hCh)).mono ?_; rintro e w3 ⟨rfl, hb3⟩; rw [ha]; have hCh3 := Aside0.mk (Chain.below hb3 hCh); have hV3 : w3.cell? ⟨g + 1, 0, none⟩ = some (.pointer (some ⟨g, 0, none⟩)) := Boxed.cell (show Boxed w3 (g + 1) 84 (.pointer (some ⟨g, 0, none⟩)) from (hb3.block _ hL.var.lt).trans hL.var)) | (refine ⟨trivial, ?_⟩; skip))
            exact ⟨.tuple #[.pointer none, .bool false], by simp [results, Try.f68, go_sem], .pointer none, by rw [hno], hL.below.trans (hb3.mono hsz), fun h => by rw [hno] at h; cases h⟩
          · obtain ⟨d, hnn⟩ : ∃ d, nestedN ⟨g, A0, c0, l0⟩ ns = d := ⟨_, rfl⟩
            cases d
            · have hno : bodyOk l0 l1 = false := by rw [nestedN_P _ _ hn2 hnd, HNS.out] at hnn; rw [bodyOk, hnn]; simp
              gi_wp2_with (first | (refine ⟨trivial, ?_⟩; gi_at_call 85; refine (callsIn_wide.2 (impl_body_apart.calls ⟨g, A0, c0, l0⟩ ns wr hCh)).mono ?_; rintro e w3 ⟨rfl, hb3⟩; rw [ha]; have hCh3 := Aside0.mk (Chain.below hb3 hCh); have hV3 : w3.cell? ⟨g + 1, 0, none⟩ = some (.pointer (some ⟨g, 0, none⟩)) := Boxed.cell (show Boxed w3 (g + 1) 84 (.pointer (some ⟨g, 0, none⟩)) from (hb3.block _ hL.var.lt).trans hL.var)) | (refine ⟨trivial, ?_⟩; gi_at_call 86; refine (callsIn_wide.2 (impl_body_nested.calls ⟨g, A0, c0, l0⟩ ns w3 hCh3.out hlen)).mono ?_; rintro e w4 ⟨rfl, hb4⟩; rw [hnn]; have hV4 : w4.cell? ⟨g + 1, 0, none⟩ = some (.pointer (some ⟨g, 0, none⟩)) := Boxed.cell (show Boxed w4 (g + 1) 84 (.pointer (some ⟨g, 0, none⟩)) from (hb4.block _ (Nat.lt_of_lt_of_le hL.var.lt hb3.size)).trans ((hb3.block _ hL.var.lt).trans hL.var))))
              exact ⟨.tuple #[.pointer none, .bool false], by simp [results, Try.f68, go_sem], .pointer none, by rw [hno], (hL.below.trans (hb3.mono hsz)).trans (hb4.mono (Nat.le_trans hsz hb3.size)), fun h => by rw [hno] at h; cases h⟩
            · have hyes : bodyOk l0 l1 = true := by rw [nestedN_P _ _ hn2 hnd, HNS.out] at hnn; rw [HMAP.out] at ha; rw [bodyOk, HB.out, HALL.out, ha, hnn, decide_eq_true h2]; rfl
              gi_wp2_with (first | (refine ⟨trivial, ?_⟩; gi_at_call 85; refine (callsIn_wide.2 (impl_body_apart.calls ⟨g, A0, c0, l0⟩ ns wr hCh)).mono ?_; rintro e w3 ⟨rfl, hb3⟩; rw [ha]; have hCh3 := Aside0.mk (Chain.below hb3 hCh); have hV3 : w3.cell? ⟨g + 1, 0, none⟩ = some (.pointer (some ⟨g, 0, none⟩)) := Boxed.cell (show Boxed w3 (g + 1) 84 (.pointer (some ⟨g, 0, none⟩)) from (hb3.block _ hL.var.lt).trans hL.var)) | (refine ⟨trivial, ?_⟩; gi_at_call 86; refine (callsIn_wide.2 (impl_body_nested.calls ⟨g, A0, c0, l0⟩ ns w3 hCh3.out hlen)).mono ?_; rintro e w4 ⟨rfl, hb4⟩; rw [hnn]; have hV4 : w4.cell? ⟨g + 1, 0, none⟩ = some (.pointer (some ⟨g, 0, none⟩)) := Boxed.cell (show Boxed w4 (g + 1) 84 (.pointer (some ⟨g, 0, none⟩)) from (hb4.block _ (Nat.lt_of_lt_of_le hL.var.lt hb3.size)).trans ((hb3.block _ hL.var.lt).trans hL.var))))
              have hV4b : Boxed w4 (g + 1) 84 (.pointer (some ⟨g, 0, none⟩)) := (hb4.block _ (Nat.lt_of_lt_of_le hL.var.lt hb3.size)).trans ((hb3.block _ hL.var.lt).trans hL.var)
              have hG4 := blk_below (blk_below hG hb3) hb4
              have hR4 := (hRi.below hb3).below hb4
              have hW4 := (hL.below.trans (hb3.mono hsz)).trans (hb4.mono (Nat.le_trans hsz hb3.size))
              have HY := Aside0.mk hyes
              clear hyes hnn ha hV4 hV3 hV hb3 hb4 hG hRi hCh3 hCh hsz hnd hn2 hlen HALL h2 hL
              obtain ⟨all, hal⟩ : ∃ all : List Nd, all = ⟨g, A0, c0, l0⟩ :: ns := ⟨_, rfl⟩
              have HAL := Aside0.mk hal
              have hptr : Value.pointer (some ⟨g, 0, none⟩) = Nd.ptr all := by rw [hal]; rfl
              have HPT := Aside0.mk hptr
              have hmapA : all.map Nd.l = l0 :: l1 := by rw [hal]; exact HMAP.out
              have HMA := Aside0.mk hmapA
              clear hmapA hptr hal
              refine wpIn_loop_rounds (all.length + 1) (rounds_ind (fun kq a W => ∃ (Ds : List Nat) (pre rest : List Nd) (x10 x61 x62 x63 x64 x65 x66 x67 x68 x69 x70 x71 x72 x73 x74 x75 x76 x77 x78 x79 x80 x81 x82 x83 : Value), a = { tmps := #[.agg #[.slice A0 l0.length c0, .slice A1 l1.length c1], .pointer (some ⟨w.heap.size, 0, none⟩), u2, u3, .pointer (some ⟨g + 1, 0, none⟩), u5, undef, u7, Nd.ptr rest, undef, x10, .pointer (some ⟨w.heap.size, 1, none⟩), .slice A1 l1.length c1, .int .i64 (l1.length : Int), .bool false, .bool false, .pointer (some ⟨w.heap.size, 0, none⟩), .slice A0 l0.length c0, .bool true, .bool false, .bool false, .pointer (some ⟨w.heap.size, 0, none⟩), .slice A0 l0.length c0, .agg #[.slice A0 l0.length c0, .pointer none], .agg #[.slice A0 l0.length c0, .pointer none, .slice none 0 0], .pointer (some ⟨g, 0, none⟩), .pointer (some ⟨g, 0, none⟩), .pointer (some ⟨g, 0, none⟩), .pointer (some ⟨g, 0, none⟩), .pointer (some ⟨w.heap.size, 1, none⟩), .slice A1 l1.length c1, .int .i64 (l1.length : Int), .int .i64 (l1.length : Int), .bool false, u34, u35, u36, u37, u38, u39, u40, u41, u42, u43, u44, u45, u46, u47, u48, u49, .pointer (some ⟨g, 0, none⟩), .bool true, .bool false, .bool false, .pointer (some ⟨g, 0, none⟩), .bool true, .bool false, .bool false, .pointer (some ⟨g, 0, none⟩), .pointer (some ⟨g, 0, none⟩), .pointer (some ⟨g, 0, none⟩), x61, x62, x63, x64, x65, x66, x67, x68, x69, x70, x71, x72, x73, x74, x75, x76, x77, x78, x79, x80, x81, x82, x83, undef], defers := Ds.map markOf } ∧ kq = rest.length ∧ all = pre ++ rest ∧ Below w.heap.size w W ∧ Boxed W (g + 1) 84 (.pointer (some ⟨g, 0, none⟩)) ∧ Rings W ns ∧
                  (∃ ev, W.heap[g]? = some (.cells #[.slice A0 l0.length c0, Nd.ptr ns, ev] 94 (0, 0)) ∧ W.ownsRow w.heap.size 35 4 ev (bodyEdges (pre.map Nd.l)).length (bodyRows (bodyEdges (pre.map Nd.l)))) ∧ Marks w.heap.size Ds W) ?zero ?succ all.length _ _ ?start)
              case start => exact ⟨[], [], all, _, _, _, _, _, _, _, _, _, _, _, _, _, _, _, _, _, _, _, _, _, _, _, _, by rw [← HPT.out]; rfl, rfl, rfl, hW4, hV4b, hR4, ⟨_, hG4, World.ownsRow_nil _ _ _ _⟩, by simp [Marks]⟩
              case zero =>
                clear hW4 hV4b hR4 hG4
                rintro a W ⟨Ds, pre, rest, x10, x61, x62, x63, x64, x65, x66, x67, x68, x69, x70, x71, x72, x73, x74, x75, x76, x77, x78, x79, x80, x81, x82, x83, rfl, hk, hpr, hB, hV, hR, ⟨ev, hG, ho⟩, hD⟩
                obtain rfl : rest = [] := List.eq_nil_of_length_eq_zero hk.symm
                have hp : pre = all := by rw [hpr, List.append_nil]
                clear hpr hk
                subst hp
                have hV0 := hV.cell
                have HR := Aside0.mk hR
                simp only [Nd.ptr_nil]
                gi_wp2
                rw [HMA.out] at ho
                refine leaves_marks (n₀ := w.heap.size) (fun W => Below w.heap.size w W ∧ Rings W ns ∧ ∃ ev, W.heap[g]? = some (.cells #[.slice A0 l0.length c0, Nd.ptr ns, ev] 94 (0, 0)) ∧ W.ownsRow w.heap.size 35 4 ev (bodyEdges (l0 :: l1)).length (bodyRows (bodyEdges (l0 :: l1)))) ?_ ?_ Ds _ hD ⟨hB, HR.out, ev, hG, ho⟩
                · rintro W D hn hDd ⟨hB, hR, ev, hG, ho⟩
                  refine ⟨hB.trans (belowK_b (w := w) (Nat.le_refl _) W D _ _ hn hDd rfl rfl), hR.mono (fun m hmm => World.putObj_heap_other (fun e => ?_)), ev, (World.putObj_heap_other (fun e => ?_)).trans hG, ownsRow_putObj ho _ hDd rfl⟩
                  · obtain ⟨cs, hc⟩ := hR.blk m hmm
                    rw [e, hDd] at hc; cases hc
                  · rw [e, hDd] at hG; cases hG
                · rintro W ⟨hB, hR, ev, hG, ho⟩
                  exact ⟨.tuple #[.pointer (some ⟨g, 0, none⟩), .bool true], by simp [results, Try.f68, go_sem], .pointer (some ⟨g, 0, none⟩), by rw [HY.out], hB, fun _ => ⟨⟨g, A0, c0, l0⟩, ns, ev, rfl, rfl, HNS.out, ⟨⟨blk_cell hG 0, blk_cell hG 1, Kd.C_below hr0 hB, hc0, _, _, hG⟩, Rings.chain hB HM.out hR⟩, blk_cell hG 2, ho⟩⟩
              case succ =>
                clear hW4 hV4b hR4 hG4
                rintro k a W ⟨Ds, pre, rest, x10, x61, x62, x63, x64, x65, x66, x67, x68, x69, x70, x71, x72, x73, x74, x75, x76, x77, x78, x79, x80, x81, x82, x83, rfl, hk, hpr, hB, hV, hR, ⟨ev, hG, ho⟩, hD⟩
                cases rest with
                | nil => simp at hk
                | cons m r =>
                  have hCA : Chain W all := by rw [HAL.out]; exact ⟨⟨blk_cell hG 0, blk_cell hG 1, Kd.C_below hr0 hB, hc0, _, _, hG⟩, Rings.chain hB HM.out hR⟩
                  rw [hpr] at hCA
                  have hcell := (Chain.drop hCA).1.1
                  have hcel1 := (Chain.drop hCA).1.2.1
                  have hcm := (Chain.drop hCA).1.2.2.2.1
                  have hCw : Kd.C k25 w m.A m.l.length m.l := by
                    have hmem : m ∈ all := by rw [hpr]; simp
                    rw [HAL.out] at hmem
                    rcases List.mem_cons.1 hmem with rfl | h
                    · exact hr0
                    · exact (HM.out m h).2.1
                  have HP := Aside0.mk hpr
                  have HK := Aside0.mk hk
                  have HD := Aside0.mk hD
                  clear hCA hpr hk hD
                  simp only [Nd.ptr_cons]
                  gi_wp2_with (first | (refine ⟨trivial, ?_⟩; gi_at_call 56; refine (all_in _ _ _ _ _).mono ?_; rintro e w5 ⟨rfl, rfl⟩))
                  have hm8 : m.l.length ≤ 8 ∧ (bodyEdges (pre.map Nd.l)).length ≤ 24 := by
                    have h1 : ∀ q ∈ pre ++ m :: r, q.l.length ≤ 8 := by rw [← HP.out, HAL.out]; exact H8.out.1
                    have h2 := bodyEdges_len (pre.map Nd.l) (fun l hl => by obtain ⟨q, hq, rfl⟩ := List.mem_map.1 hl; exact h1 q (List.mem_append_left _ hq))
                    have h3 := congrArg List.length (HP.out.symm.trans HAL.out)
                    have h4 := H8.out.2
                    simp only [List.length_append, List.length_cons, List.length_map] at h2 h3
                    exact ⟨h1 m (by simp), by omega⟩
                  have hlW : ∀ D ∈ Ds, D < W.heap.size := fun D h => (Array.getElem?_eq_some_iff.1 (HD.out.2 D h).2).1
                  have hBr := hB.alloc hB.size (.cells #[.slice m.A m.l.length m.c] 23)
                  have hVr := hV.alloc (.cells #[.slice m.A m.l.length m.c] 23)
                  have hRr : Rings (W.alloc (.cells #[.slice m.A m.l.length m.c] 23)) ns := hR.mono fun q hq => Below.heap_alloc W _ _ (hR.lt q hq)
                  have hGr := blk_alloc hG (.cells #[.slice m.A m.l.length m.c] 23)
                  have hor := ho.alloc (.cells #[.slice m.A m.l.length m.c] 23)
                  have hDr : ∀ D ∈ Ds, (W.alloc (.cells #[.slice m.A m.l.length m.c] 23)).heap[D]? = some (.deferred (some [])) := fun D h => (Below.heap_alloc W _ _ (hlW D h)).trans (HD.out.2 D h).2
                  have bN := Boxed.new W 23 (.slice m.A m.l.length m.c)
                  have hszr : (W.alloc (.cells #[.slice m.A m.l.length m.c] 23)).heap.size = W.heap.size + 1 := by simp
                  have hwW := hB.size
                  have hgB : g + 1 < W.heap.size := hV.lt
                  obtain ⟨Bn, hBn⟩ : ∃ Bn, W.heap.size = Bn := ⟨_, rfl⟩
                  obtain ⟨Wr, hWr⟩ : ∃ Wr, W.alloc (.cells #[.slice m.A m.l.length m.c] 23) = Wr := ⟨_, rfl⟩
                  rw [hBn] at bN hszr hlW hwW hgB ⊢
                  rw [hWr] at hBr hVr hRr hGr hor hDr bN hszr ⊢
                  clear hWr hBn hB hV hR hG ho hcell hcel1
                  refine wpIn_rangeFunc_ownH rfl (by decide) (gf := 84) (lb := #[.pointer (some ⟨Bn, 0, none⟩)]) rfl trivial (enters_of Try.func84 (by kernel_rfl) rfl)
                    (all_stops 7 (by decide) Bn w.heap.size w m.A m.c m.l hCw (Nat.le_refl _) Wr hBr bN) Kp_t (Kp_b (by omega) (by omega)) (Below.refl _ _) (fun _ => rfl)
                    (fun (pr : List impl_LoopOk.E) (X : World) => (((((∃ v, X.heap[g]? = some (.cells #[.slice A0 l0.length c0, Nd.ptr ns, v] 94 (0, 0)) ∧ X.ownsRow w.heap.size 35 4 v (bodyEdges (pre.map Nd.l) ++ pr).length (bodyRows (bodyEdges (pre.map Nd.l) ++ pr))) ∧ Boxed X (g + 1) 84 (.pointer (some ⟨g, 0, none⟩))) ∧ Rings X ns) ∧ (∀ D ∈ Ds, X.heap[D]? = some (.deferred (some [])))) ∧ Boxed X Bn 23 (.slice m.A m.l.length m.c)) ∧ Below w.heap.size w X)
                    (fun _ _ _ => False)
                    (OwnFrom.and (OwnFrom.and (OwnFrom.and (OwnFrom.and (OwnFrom.and (Own.from (holds3_own _ _ _ _ _ _ _ (fun pr : List impl_LoopOk.E => (bodyEdges (pre.map Nd.l) ++ pr).length) (fun pr => bodyRows (bodyEdges (pre.map Nd.l) ++ pr))) _) (Own.from (boxed_own _ _ _) _)) (Own.from (rings_own _) _)) (marks_own (fun D h => by have := hlW D h; omega))) (Own.from (boxed_own _ _ _) _)) (ownFrom_below (Nat.le_refl _) (by omega)))
                    (fun _ _ _ _ _ hs _ _ => hs)
                    ⟨⟨⟨⟨⟨⟨ev, hGr, by rw [List.append_nil]; exact hor⟩, hVr⟩, hRr⟩, hDr⟩, bN⟩, hBr⟩
                    (fun x a' X => ∃ Bx, X.heap[Bx]? = some (.cells (seg x.2.1 x.2.2) 35 (0, 0)) ∧ a' = { tmps := #[.agg #[.slice A0 l0.length c0, .slice A1 l1.length c1], .pointer (some ⟨w.heap.size, 0, none⟩), u2, u3, .pointer (some ⟨g + 1, 0, none⟩), u5, undef, u7, .pointer (some ⟨m.b, 0, none⟩), undef, .pointer (some ⟨Bx, 0, none⟩), .pointer (some ⟨w.heap.size, 1, none⟩), .slice A1 l1.length c1, .int .i64 (l1.length : Int), .bool false, .bool false, .pointer (some ⟨w.heap.size, 0, none⟩), .slice A0 l0.length c0, .bool true, .bool false, .bool false, .pointer (some ⟨w.heap.size, 0, none⟩), .slice A0 l0.length c0, .agg #[.slice A0 l0.length c0, .pointer none], .agg #[.slice A0 l0.length c0, .pointer none, .slice none 0 0], .pointer (some ⟨g, 0, none⟩), .pointer (some ⟨g, 0, none⟩), .pointer (some ⟨g, 0, none⟩), .pointer (some ⟨g, 0, none⟩), .pointer (some ⟨w.heap.size, 1, none⟩), .slice A1 l1.length c1, .int .i64 (l1.length : Int), .int .i64 (l1.length : Int), .bool false, u34, u35, u36, u37, u38, u39, u40, u41, u42, u43, u44, u45, u46, u47, u48, u49, .pointer (some ⟨g, 0, none⟩), .bool true, .bool false, .bool false, .pointer (some ⟨g, 0, none⟩), .bool true, .bool false, .bool false, .pointer (some ⟨g, 0, none⟩), .pointer (some ⟨g, 0, none⟩), .pointer (some ⟨g, 0, none⟩), .pointer (some ⟨m.b, 0, none⟩), .bool true, x63, x64, x65, x66, .pointer (some ⟨m.b, 0, none⟩), .pointer (some ⟨m.b, 0, none⟩), .pointer (some ⟨m.b, 0, none⟩), .slice m.A m.l.length m.c, .func (.func 84) #[] #[.pointer (some ⟨Bn, 0, none⟩)], .int .i64 (x.1 : Int), .agg (seg x.2.1 x.2.2), x74, x75, x76, x77, x78, x79, x80, x81, x82, x83, undef], defers := [] })
                    (fun x a' _ X Y row hs hg hr => by obtain ⟨Bx, h2, h3⟩ := hs; exact ⟨Bx, blk_own Bx 35 (fun (_ : Unit) => seg x.2.1 x.2.2) () X Y row h2 hg (fun r e => (hr r e).2), h3⟩)
                    ?assign ?body ?done ?stop
                  case assign =>
                    rintro l pr x X K ⟨⟨⟨⟨⟨⟨v, bG, ho1⟩, bV⟩, bR⟩, bD⟩, bN1⟩, hB1⟩ hK
                    simp only [enc, seg]
                    gi_wp2
                    exact hK _ _ ((KeepsOthers.alloc _ _).from _) ⟨(Below.refl _ X).alloc hB1.size _, fun o e => blk_alloc e _⟩ ⟨⟨⟨⟨⟨⟨v, blk_alloc bG _, ho1.alloc _⟩, bV.alloc _⟩, bR.mono fun q hq => Below.heap_alloc X _ _ (bR.lt q hq)⟩, fun D h => (Below.heap_alloc X _ _ (Array.getElem?_eq_some_iff.1 (bD D h)).1).trans (bD D h)⟩, bN1.alloc _⟩, hB1.alloc hB1.size _⟩ ⟨X.heap.size, World.alloc_heap_new X _, rfl⟩
                  case stop =>
                    rintro D c pr X _ _ h _
                    exact h.elim
                  case done =>
                    rintro D zs X hD rfl ⟨⟨⟨⟨⟨⟨v, bG, ho1⟩, bV⟩, bR⟩, bD⟩, bN1⟩, hB1⟩ hKD
                    have hCA : Chain X all := by rw [HAL.out]; exact ⟨⟨blk_cell bG 0, blk_cell bG 1, Kd.C_below hr0 hB1, hc0, _, _, bG⟩, Rings.chain hB1 HM.out bR⟩
                    rw [HP.out] at hCA
                    have hcel1 := (Chain.drop hCA).1.2.1
                    clear hCA
                    gi_wp2
                    refine ⟨D :: Ds, pre ++ [m], r, _, _, _, _, _, _, _, _, _, _, _, _, _, _, _, _, _, _, _, _, _, _, _, _, rfl, by have := HK.out; simp at this; omega, by rw [HP.out]; simp, hB1, bV, bR, ⟨v, bG, ?_⟩, List.nodup_cons.2 ⟨fun h => ?_, HD.out.1⟩, fun D' h' => ?_⟩
                    · have e : bodyEdges ((pre ++ [m]).map Nd.l) = bodyEdges (pre.map Nd.l) ++ upto m.l m.l.length := by simp [bodyEdges, edgeRow]
                      rw [e]; exact ho1
                    · have := hlW D h; omega
                    · rcases List.mem_cons.1 h' with rfl | h'
                      · exact ⟨by omega, hKD⟩
                      · exact ⟨(HD.out.2 D' h').1, bD D' h'⟩
                  case body =>
                    rintro l pr x a' X hl ⟨q, hq⟩ ⟨⟨⟨⟨⟨⟨v, bG, ho1⟩, bV⟩, bR⟩, bD⟩, bN1⟩, hB1⟩ ⟨Bx, bX, rfl⟩ hlt
                    obtain ⟨xi, ⟨xa, xb⟩, ⟨xc, xd⟩⟩ := x
                    gi_wp2
                    refine wpIn_region_any (by kernel_rfl) ?_
                    refine wpAnyIn_inv (fun L a w' => ∃ (b0 b1 b2 b3 b4 b5 b6 b7 b8 b9 b10 : Bool) (s74 s75 s76 s77 s78 s79 s80 s81 s82 s83 : Value), L = #[b0, b1, b2, b3, b4, b5, b6, b7, b8, b9, b10] ∧ a = { tmps := #[.agg #[.slice A0 l0.length c0, .slice A1 l1.length c1], .pointer (some ⟨w.heap.size, 0, none⟩), u2, u3, .pointer (some ⟨g + 1, 0, none⟩), u5, undef, u7, .pointer (some ⟨m.b, 0, none⟩), undef, .pointer (some ⟨Bx, 0, none⟩), .pointer (some ⟨w.heap.size, 1, none⟩), .slice A1 l1.length c1, .int .i64 (l1.length : Int), .bool false, .bool false, .pointer (some ⟨w.heap.size, 0, none⟩), .slice A0 l0.length c0, .bool true, .bool false, .bool false, .pointer (some ⟨w.heap.size, 0, none⟩), .slice A0 l0.length c0, .agg #[.slice A0 l0.length c0, .pointer none], .agg #[.slice A0 l0.length c0, .pointer none, .slice none 0 0], .pointer (some ⟨g, 0, none⟩), .pointer (some ⟨g, 0, none⟩), .pointer (some ⟨g, 0, none⟩), .pointer (some ⟨g, 0, none⟩), .pointer (some ⟨w.heap.size, 1, none⟩), .slice A1 l1.length c1, .int .i64 (l1.length : Int), .int .i64 (l1.length : Int), .bool false, u34, u35, u36, u37, u38, u39, u40, u41, u42, u43, u44, u45, u46, u47, u48, u49, .pointer (some ⟨g, 0, none⟩), .bool true, .bool false, .bool false, .pointer (some ⟨g, 0, none⟩), .bool true, .bool false, .bool false, .pointer (some ⟨g, 0, none⟩), .pointer (some ⟨g, 0, none⟩), .pointer (some ⟨g, 0, none⟩), .pointer (some ⟨m.b, 0, none⟩), .bool true, x63, x64, x65, x66, .pointer (some ⟨m.b, 0, none⟩), .pointer (some ⟨m.b, 0, none⟩), .pointer (some ⟨m.b, 0, none⟩), .slice m.A m.l.length m.c, .func (.func 84) #[] #[.pointer (some ⟨Bn, 0, none⟩)], .int .i64 (xi : Int), .agg #[.int .i64 xa, .int .i64 xb, .int .i64 xc, .int .i64 xd], s74, s75, s76, s77, s78, s79, s80, s81, s82, s83, undef], defers := [] } ∧ (b0 = true → s74 = .pointer (some ⟨g, 0, none⟩)) ∧ (b1 = true → s75 = .pointer (some ⟨g, 0, none⟩)) ∧ (b2 = true → s76 = .pointer (some ⟨g, 0, none⟩)) ∧ (b3 = true → s77 = .pointer (some ⟨g, 2, none⟩)) ∧ (b4 = true → s78 = v) ∧ (b5 = true → s79 = .agg #[.int .i64 xa, .int .i64 xb, .int .i64 xc, .int .i64 xd]) ∧ (b8 = true → s82 = .pointer (some ⟨g, 0, none⟩)) ∧ (b9 = true → s83 = .pointer (some ⟨g, 2, none⟩)) ∧ (b6 = true → b5 = true) ∧ (b7 = true → b6 = true ∧ b4 = true) ∧ (b10 = true → b0 = true ∧ b1 = true ∧ b4 = true ∧ b7 = true) ∧ Ph w.heap.size g X v (bodyEdges (pre.map Nd.l) ++ pr).length (bodyRows (bodyEdges (pre.map Nd.l) ++ pr)) [.int .i64 xa, .int .i64 xb, .int .i64 xc, .int .i64 xd] #[.int .i64 xa, .int .i64 xb, .int .i64 xc, .int .i64 xd] b6 b7 b10 s80 s81 w') ?fin ?step _ _ _ _ (by decide) ?bnd ⟨false, false, false, false, false, false, false, false, false, false, false, x74, x75, x76, x77, x78, x79, x80, x81, x82, x83, rfl, rfl, by simp, by simp, by simp, by simp, by simp, by simp, by simp, by simp, by simp, by simp, by simp, .inl ⟨rfl, rfl, rfl, rfl⟩⟩
                    case bnd =>
                      intro i h
                      by_cases hi : i < 11
                      · simpa using hi
                      · simp [hi] at h
                    case fin =>
                      rintro L a w' ⟨b0, b1, b2, b3, b4, b5, b6, b7, b8, b9, b10, s74, s75, s76, s77, s78, s79, s80, s81, s82, s83, rfl, rfl, h74, h75, h76, h77, h78, h79, h82, h83, c6, c7, c10, ph⟩ hr
                      rw [List.eq_nil_iff_forall_not_mem] at hr
                      have a0 : b0 = true := by cases b0 with | true => rfl | false => exact (hr 0 (mem_ready.2 ⟨rfl, _, rfl, by simp [Region.binds]⟩)).elim
                      have a1 : b1 = true := by cases b1 with | true => rfl | false => exact (hr 1 (mem_ready.2 ⟨rfl, _, rfl, by simp [Region.binds]⟩)).elim
                      have a2 : b2 = true := by cases b2 with | true => rfl | false => exact (hr 2 (mem_ready.2 ⟨rfl, _, rfl, by simp [Region.binds, a1]⟩)).elim
                      have a3 : b3 = true := by cases b3 with | true => rfl | false => exact (hr 3 (mem_ready.2 ⟨rfl, _, rfl, by simp [Region.binds, a2]⟩)).elim
                      have a4 : b4 = true := by cases b4 with | true => rfl | false => exact (hr 4 (mem_ready.2 ⟨rfl, _, rfl, by simp [Region.binds, a3]⟩)).elim
                      have a5 : b5 = true := by cases b5 with | true => rfl | false => exact (hr 5 (mem_ready.2 ⟨rfl, _, rfl, by simp [Region.binds]⟩)).elim
                      have a6 : b6 = true := by cases b6 with | true => rfl | false => exact (hr 6 (mem_ready.2 ⟨rfl, _, rfl, by simp [Region.binds, a5]⟩)).elim
                      have a7 : b7 = true := by cases b7 with | true => rfl | false => exact (hr 7 (mem_ready.2 ⟨rfl, _, rfl, by simp [Region.binds, a4, a6]⟩)).elim
                      have a8 : b8 = true := by cases b8 with | true => rfl | false => exact (hr 8 (mem_ready.2 ⟨rfl, _, rfl, by simp [Region.binds, a0, a1, a2, a3, a4, a5, a6, a7]⟩)).elim
                      have a9 : b9 = true := by cases b9 with | true => rfl | false => exact (hr 9 (mem_ready.2 ⟨rfl, _, rfl, by simp [Region.binds, a0, a1, a2, a3, a4, a5, a6, a7, a8]⟩)).elim
                      have a10 : b10 = true := by cases b10 with | true => rfl | false => exact (hr 10 (mem_ready.2 ⟨rfl, _, rfl, by simp [Region.binds, a0, a1, a2, a3, a4, a5, a6, a7, a8, a9]⟩)).elim
                      rcases ph with ⟨_, _, e, _⟩ | ⟨_, _, e, _⟩ | ⟨_, _, e, _⟩ | ⟨_, _, _, w4, r1, r2, rfl⟩
                      · rw [a10] at e; cases e
                      · rw [a10] at e; cases e
                      · rw [a10] at e; cases e
                      · clear a0 a1 a2 a3 a4 a5 a6 a7 a8 a9 a10 hr
                        obtain ⟨q1, q2, q3, q4⟩ := body_appended bG (by omega) ho1 hB1.size r1 r2
                        have hne : ∀ B, B ≠ g → ∀ (Y : World) (u : Value), (Y.setCell ⟨g, 2, none⟩ u).heap[B]? = Y.heap[B]? := fun B hB Y u => Below.heap_setCell _ _ _ _ hB
                        refine (show KeepsFrom Wr.heap.size X _ ∧ Kp w.heap.size Bn X _ ∧ _ from ⟨q3.from _, ⟨q4, fun o e => ?_⟩, ⟨⟨⟨⟨⟨⟨_, q1, ?_⟩, (hne _ (by omega) _ _).trans (grown_blk bV (by decide) ho1 r2)⟩, bR.mono fun q hq => (hne _ (by have := (HM.out q hq).1; omega) _ _).trans ?_⟩, fun D h => q3.same D _ (bD D h) rfl⟩, (hne _ (by omega) _ _).trans (grown_blk bN1 (by decide) ho1 r2)⟩, hB1.trans q4⟩⟩)
                        · rw [show X.heap[Bn]? = _ from bN1] at e
                          cases e
                          exact (hne _ (by omega) _ _).trans (grown_blk bN1 (by decide) ho1 r2)
                        · have e1 : bodyEdges (pre.map Nd.l) ++ (pr ++ [(xi, ⟨xa, xb⟩, ⟨xc, xd⟩)]) = (bodyEdges (pre.map Nd.l) ++ pr) ++ [(xi, ⟨xa, xb⟩, ⟨xc, xd⟩)] := (List.append_assoc _ _ _).symm
                          have e2 : bodyRows ((bodyEdges (pre.map Nd.l) ++ pr) ++ [(xi, ⟨xa, xb⟩, ⟨xc, xd⟩)]) = bodyRows (bodyEdges (pre.map Nd.l) ++ pr) ++ [.int .i64 xa, .int .i64 xb, .int .i64 xc, .int .i64 xd] := by simp [bodyRows]
                          rw [e1, e2, List.length_append, List.length_cons, List.length_nil]
                          exact q2
                        · obtain ⟨cs, hc⟩ := bR.blk q hq
                          exact (grown_blk hc (by decide) ho1 r2).trans hc.symm
                    case step =>
                      rintro L a w' i ⟨b0, b1, b2, b3, b4, b5, b6, b7, b8, b9, b10, s74, s75, s76, s77, s78, s79, s80, s81, s82, s83, rfl, rfl, h74, h75, h76, h77, h78, h79, h82, h83, c6, c7, c10, ph⟩ hi
                      obtain ⟨hu, o, hoo, haf⟩ := mem_ready.1 hi
                      have hi11 : i < 11 := by
                        by_cases h : i < 11
                        · exact h
                        · simp [h] at hu
                      clear hi
                      rcases (by omega : i = 0 ∨ i = 1 ∨ i = 2 ∨ i = 3 ∨ i = 4 ∨ i = 5 ∨ i = 6 ∨ i = 7 ∨ i = 8 ∨ i = 9 ∨ i = 10) with rfl | rfl | rfl | rfl | rfl | rfl | rfl | rfl | rfl | rfl | rfl
                      · have hb : b0 = false := hu
                        have h10 : b10 = false := by cases b10 with | false => rfl | true => rw [(c10 rfl).1] at hb; cases hb
                        have cV := Boxed.cell (ph.look h10 ho1 bV (by decide))
                        refine wpOpIn_step rfl (fun K hK => ?_)
                        clear hoo haf
                        go_simp
                        exact hK _ _ ⟨true, b1, b2, b3, b4, b5, b6, b7, b8, b9, b10, .pointer (some ⟨g, 0, none⟩), s75, s76, s77, s78, s79, s80, s81, s82, s83, rfl, rfl, fun _ => rfl, h75, h76, h77, h78, h79, h82, h83, c6, c7, fun h => ⟨rfl, (c10 h).2⟩, ph⟩
                      · have hb : b1 = false := hu
                        have h10 : b10 = false := by cases b10 with | false => rfl | true => rw [(c10 rfl).2.1] at hb; cases hb
                        have cV := Boxed.cell (ph.look h10 ho1 bV (by decide))
                        refine wpOpIn_step rfl (fun K hK => ?_)
                        clear hoo haf
                        go_simp
                        exact hK _ _ ⟨b0, true, b2, b3, b4, b5, b6, b7, b8, b9, b10, s74, .pointer (some ⟨g, 0, none⟩), s76, s77, s78, s79, s80, s81, s82, s83, rfl, rfl, h74, fun _ => rfl, h76, h77, h78, h79, h82, h83, c6, c7, fun h => ⟨(c10 h).1, rfl, (c10 h).2.2⟩, ph⟩
                      · obtain rfl := Option.some.inj hoo
                        have haf' := haf
                        simp [Region.binds] at haf'
                        have a1 : b1 = true := haf'
                        obtain rfl := h75 a1
                        refine wpOpIn_step rfl (fun K hK => ?_)
                        clear hoo haf
                        go_simp
                        exact hK _ _ ⟨b0, b1, true, b3, b4, b5, b6, b7, b8, b9, b10, s74, .pointer (some ⟨g, 0, none⟩), .pointer (some ⟨g, 0, none⟩), s77, s78, s79, s80, s81, s82, s83, rfl, rfl, h74, fun _ => rfl, fun _ => rfl, h77, h78, h79, h82, h83, c6, c7, c10, ph⟩
                      · obtain rfl := Option.some.inj hoo
                        have haf' := haf
                        simp [Region.binds] at haf'
                        have a2 : b2 = true := haf'
                        obtain rfl := h76 a2
                        refine wpOpIn_step rfl (fun K hK => ?_)
                        clear hoo haf
                        go_simp
                        exact hK _ _ ⟨b0, b1, b2, true, b4, b5, b6, b7, b8, b9, b10, s74, s75, .pointer (some ⟨g, 0, none⟩), .pointer (some ⟨g, 2, none⟩), s78, s79, s80, s81, s82, s83, rfl, rfl, h74, h75, fun _ => rfl, fun _ => rfl, h78, h79, h82, h83, c6, c7, c10, ph⟩
                      · have hb : b4 = false := hu
                        have h10 : b10 = false := by cases b10 with | false => rfl | true => rw [(c10 rfl).2.2.1] at hb; cases hb
                        obtain rfl := Option.some.inj hoo
                        have haf' := haf
                        simp [Region.binds] at haf'
                        have a3 : b3 = true := haf'
                        obtain rfl := h77 a3
                        have cG := blk_cell (ph.look h10 ho1 bG (by decide)) 2
                        simp only [List.getElem?_toArray, List.getElem?_cons_succ, List.getElem?_cons_zero] at cG
                        refine wpOpIn_step rfl (fun K hK => ?_)
                        clear hoo haf
                        go_simp
                        exact hK _ _ ⟨b0, b1, b2, b3, true, b5, b6, b7, b8, b9, b10, s74, s75, s76, .pointer (some ⟨g, 2, none⟩), v, s79, s80, s81, s82, s83, rfl, rfl, h74, h75, h76, fun _ => rfl, fun _ => rfl, h79, h82, h83, c6, fun h => ⟨(c7 h).1, rfl⟩, fun h => ⟨(c10 h).1, (c10 h).2.1, rfl, (c10 h).2.2.2⟩, ph⟩
                      · have hb : b5 = false := hu
                        have h6 : b6 = false := by cases b6 with | false => rfl | true => rw [c6 rfl] at hb; cases hb
                        rcases ph with ⟨e6, e7, e10, rfl⟩ | ⟨e6, _⟩ | ⟨e6, _⟩ | ⟨e6, _⟩
                        · have cX0 : X.cell? ⟨Bx, 0, none⟩ = some (.int .i64 xa) := blk_cell bX 0
                          have cX1 : X.cell? ⟨Bx, 1, none⟩ = some (.int .i64 xb) := blk_cell bX 1
                          have cX2 : X.cell? ⟨Bx, 2, none⟩ = some (.int .i64 xc) := blk_cell bX 2
                          have cX3 : X.cell? ⟨Bx, 3, none⟩ = some (.int .i64 xd) := blk_cell bX 3
                          refine wpOpIn_step rfl (fun K hK => ?_)
                          clear hoo haf
                          go_simp
                          exact hK _ _ ⟨b0, b1, b2, b3, b4, true, b6, b7, b8, b9, b10, s74, s75, s76, s77, s78, .agg #[.int .i64 xa, .int .i64 xb, .int .i64 xc, .int .i64 xd], s80, s81, s82, s83, rfl, rfl, h74, h75, h76, h77, h78, fun _ => rfl, h82, h83, fun _ => rfl, c7, c10, .inl ⟨e6, e7, e10, rfl⟩⟩
                        all_goals rw [h6] at e6; cases e6
                      · have hb : b6 = false := hu
                        obtain rfl := Option.some.inj hoo
                        have haf' := haf
                        simp [Region.binds] at haf'
                        have a5 : b5 = true := haf'
                        obtain rfl := h79 a5
                        rcases ph with ⟨e6, e7, e10, rfl⟩ | ⟨e6, _⟩ | ⟨e6, _⟩ | ⟨e6, _⟩
                        · refine wpOpIn_step rfl (fun K hK => ?_)
                          clear hoo haf
                          go_simp
                          exact hK _ _ ⟨b0, b1, b2, b3, b4, b5, true, b7, b8, b9, b10, s74, s75, s76, s77, s78, .agg #[.int .i64 xa, .int .i64 xb, .int .i64 xc, .int .i64 xd], .slice (some ⟨X.heap.size, 0, none⟩) 1 1, s81, s82, s83, rfl, rfl, h74, h75, h76, h77, h78, fun _ => rfl, h82, h83, fun _ => a5, fun h => ⟨rfl, (c7 h).2⟩, c10, .inr (.inl ⟨rfl, e7, e10, rfl, rfl⟩)⟩
                        all_goals rw [hb] at e6; cases e6
                      · have hb : b7 = false := hu
                        obtain rfl := Option.some.inj hoo
                        have haf' := haf
                        simp [Region.binds] at haf'
                        obtain ⟨a4, a6⟩ : b4 = true ∧ b6 = true := haf'
                        have e78 := h78 a4
                        rcases ph with ⟨e6, _⟩ | ⟨e6, e7, e10, rfl, rfl⟩ | ⟨_, e7, _⟩ | ⟨_, e7, _⟩
                        · rw [a6] at e6; cases e6
                        · refine wpOpIn_step rfl (fun K hK => ?_)
                          clear hoo haf
                          rw [if_pos (by rfl)]
                          subst e78
                          refine wpIn_append_own _ _ _ 31 rfl w.heap.size 35 i0 _ 4 32 hu31 HI.out.1 HI.out.2.1 HI.out.2.2.1 HI.out.2.2.2 rfl (by decide) _ _ _ rfl (ownsRow_alloc ho1) ⟨X.heap.size, 0, none⟩ 1 1 [.int .i64 xa, .int .i64 xb, .int .i64 xc, .int .i64 xd] rfl rfl ?c1 ?c2 ?c3 ?c4 ?c5 ?_
                          case c1 =>
                            intro j u hj
                            rw [show (⟨X.heap.size, 0, none⟩ : Addr).add j = ⟨X.heap.size, j, none⟩ from (by simp [Addr.add]; omega)]
                            exact (blk_cell (World.alloc_heap_new X.drew (.cells #[.int .i64 xa, .int .i64 xb, .int .i64 xc, .int .i64 xd] 35)) j).trans (by simpa using hj)
                          case c2 =>
                            intro u hu
                            simp at hu
                            rcases hu with rfl | rfl | rfl | rfl <;> rfl
                          case c3 => rw [List.length_append]; unfold maxLen; omega
                          case c4 => rw [List.length_append]; omega
                          case c5 => have := hB1.size; simp; omega
                          rintro v' w4 r1 r2 _
                          exact hK _ _ ⟨b0, b1, b2, b3, b4, b5, b6, true, b8, b9, b10, s74, s75, s76, s77, s78, s79, _, v', s82, s83, rfl, rfl, h74, h75, h76, h77, h78, h79, h82, h83, c6, fun _ => ⟨a6, a4⟩, fun h => ⟨(c10 h).1, (c10 h).2.1, (c10 h).2.2.1, rfl⟩, .inr (.inr (.inl ⟨a6, rfl, e10, r1, r2⟩))⟩
                        all_goals rw [hb] at e7; cases e7
                      · obtain rfl := Option.some.inj hoo
                        have haf' := haf
                        simp [Region.binds] at haf'
                        have a0 : b0 = true := haf'.1
                        clear haf'
                        obtain rfl := h74 a0
                        refine wpOpIn_step rfl (fun K hK => ?_)
                        clear hoo haf
                        go_simp
                        exact hK _ _ ⟨b0, b1, b2, b3, b4, b5, b6, b7, true, b9, b10, .pointer (some ⟨g, 0, none⟩), s75, s76, s77, s78, s79, s80, s81, .pointer (some ⟨g, 0, none⟩), s83, rfl, rfl, fun _ => rfl, h75, h76, h77, h78, h79, fun _ => rfl, h83, c6, c7, c10, ph⟩
                      · obtain rfl := Option.some.inj hoo
                        have haf' := haf
                        simp [Region.binds] at haf'
                        have a8 : b8 = true := haf'.1
                        clear haf'
                        obtain rfl := h82 a8
                        refine wpOpIn_step rfl (fun K hK => ?_)
                        clear hoo haf
                        go_simp
                        exact hK _ _ ⟨b0, b1, b2, b3, b4, b5, b6, b7, b8, true, b10, s74, s75, s76, s77, s78, s79, s80, s81, .pointer (some ⟨g, 0, none⟩), .pointer (some ⟨g, 2, none⟩), rfl, rfl, h74, h75, h76, h77, h78, h79, fun _ => rfl, fun _ => rfl, c6, c7, c10, ph⟩
                      · have hb : b10 = false := hu
                        obtain rfl := Option.some.inj hoo
                        have haf' := haf
                        simp [Region.binds] at haf'
                        obtain ⟨a9, a7, a0, a1, a4⟩ : b9 = true ∧ b7 = true ∧ b0 = true ∧ b1 = true ∧ b4 = true := by simp [haf']
                        clear haf'
                        obtain rfl := h83 a9
                        have haa : (b0 = true ∧ b1 = true ∧ b4 = true ∧ b7 = true) ∧ b6 = true ∧ b7 = true := ⟨⟨a0, a1, a4, a7⟩, (c7 a7).1, a7⟩
                        rcases ph with ⟨_, e7, _⟩ | ⟨_, e7, _⟩ | ⟨e6, e7, _, r1, r2⟩ | ⟨_, _, e10, _⟩
                        · rw [a7] at e7; cases e7
                        · rw [a7] at e7; cases e7
                        · obtain ⟨q, cap, rfl⟩ := ownsRow_succ r1
                          have hg4 := grown_blk bG (by decide) ho1 r2
                          have k1 : w'.cell? ⟨g, 2, none⟩ = some v := blk_cell hg4 2
                          have f1 := blk_frozen hg4 2
                          clear a7 a0 a1 a4 a9 e6 e7
                          have A := Aside0.mk haa
                          clear haa
                          refine wpOpIn_step rfl (fun K hK => ?_)
                          clear hoo haf
                          go_simp
                          exact hK _ _ ⟨b0, b1, b2, b3, b4, b5, b6, b7, b8, b9, true, s74, s75, s76, s77, s78, s79, s80, _, s82, .pointer (some ⟨g, 2, none⟩), rfl, rfl, h74, h75, h76, h77, h78, h79, h82, fun _ => rfl, c6, c7, fun _ => A.out.1, .inr (.inr (.inr ⟨A.out.2.1, A.out.2.2, rfl, w', (by rw [List.length_append] at r1 ⊢; exact r1), r2, rfl⟩))⟩
                        · rw [hb] at e10; cases e10
  · have hd : decide ((2 : Int) < (l1.length : Int)) = true := decide_eq_true (by omega)
    gi_wp2_with (first | (refine ⟨trivial, ?_⟩; skip))
    exact ⟨.tuple #[.pointer none, .bool false], by simp [results, Try.f68, go_sem], .pointer none, by rw [bodyOk_no1 h2], (Below.refl _ w).alloc (Nat.le_refl _) _, fun h => by rw [bodyOk_no1 h2] at h; cases h⟩
end

end Go.Proofs.Ytehkklmacglelaa.PA
namespace Go.Proofs.Ytehkklmacglelaa.PA
open Go.RowKit Go.Proofs.YtehkklmacglelaaW.PrintWords Go.Proofs.YtehkklmacglelaaW.PrintLast Go.Proofs.YtehkklmacglelaaW.PrintMore
attribute [local go_sem] max2_int min2_int max_two min_two max_three min_three max_four min_four   -- for this text's walks alone
set_option linter.unusedVariables false
set_option linter.unusedSimpArgs false

/-! ### impl_PlateEdges: function 33 -/
section
open Edges Go.Shelf
def bodyTo (x : impl_LoopOk.E) : S35 := ⟨x.2.1, x.2.2⟩
theorem bodyRows_snoc (pre : List impl_LoopOk.E) (x : impl_LoopOk.E) : bodyRows (pre ++ [x]) = bodyRows pre ++ [.int .i64 x.2.1.f0, .int .i64 x.2.1.f1, .int .i64 x.2.2.f0, .int .i64 x.2.2.f1] := by simp [bodyRows]
theorem body_reps (w : World) (base : Nat) (ok : Nat → Prop) : ∀ (n : Nat) (l : List impl_LoopOk.E), l.length = n → Reps (k35.M w base ok) k35.sz (l.map bodyTo) (bodyRows l)
  | 0, l, h => by
    obtain rfl := List.eq_nil_of_length_eq_zero h
    exact Reps.none _ _
  | n + 1, l, h => by
    have hne : l ≠ [] := fun e => by rw [e] at h; simp at h
    rw [← List.dropLast_concat_getLast hne, List.map_append, bodyRows_snoc]
    exact (body_reps w base ok n l.dropLast (by rw [List.length_dropLast, h]; rfl)).snoc (k35_mkM w base ok (bodyTo (l.getLast hne))) rfl
def impl_PlateEdges.f (l0_0 : List S25) (l0_1 : List (List S25)) : Option (List S35) := some (if bodyOk l0_0 l0_1 = true then (bodyEdges (l0_0 :: l0_1)).map bodyTo else [])
set_option maxRecDepth 100000 in
set_option maxHeartbeats 4000000 in
theorem impl_PlateEdges.calls (A0_0 : Option Addr) (c0_0 : Nat) (l0_0 : List (S25)) (A0_1 : Option Addr) (c0_1 : Nat) (l0_1 : List (List (S25))) (r : List (S35)) (w : World) (hr0_0 : Kd.C k25 w A0_0 l0_0.length l0_0) (hc0_0 : l0_0.length ≤ c0_0) (hr0_1 : Kd.C (Kd.slice 25 k25) w A0_1 l0_1.length l0_1) (hc0_1 : l0_1.length ≤ c0_1) (h : impl_PlateEdges.f l0_0 l0_1 = some r) :
    Calls Try.prog 33 #[.agg #[.slice A0_0 l0_0.length c0_0, .slice A0_1 l0_1.length c0_1]] w fun e w' => ∃ v0_ : Value, e = .returned (v0_) ∧ Kd.R k35 35 w' w.heap.size (fun _ => True) v0_ r ∧ Below w.heap.size w w' := by
  have hu4 := Try.underlying94
  have hu5 := Try.underlying50
  have hres := Aside0.mk (Option.some.inj h)
  clear h
  have hb0 : Below w.heap.size w (w.alloc (.cells #[.slice A0_0 l0_0.length c0_0, .slice A0_1 l0_1.length c0_1] 50)) := (Below.refl _ w).alloc (Nat.le_refl _) _
  have HB0 := Aside0.mk hb0
  have HC := Aside0.mk (And.intro (Kd.C_below hr0_0 hb0) (Kd.C_below hr0_1 hb0))
  clear hb0 hr0_0 hr0_1
  go_enter Try.func33, Try.ntmps33
  obtain ⟨b, hb⟩ : ∃ b, bodyOk l0_0 l0_1 = b := ⟨_, rfl⟩
  have HBB := Aside0.mk hb
  clear hb
  cases b
  · go_wp2_with (first | (go_at_call 68; refine (impl_bodyOf.calls _ _ _ _ _ _ _ HC.out.1 hc0_0 HC.out.2 hc0_1).mono ?_; rw [HBB.out]; rintro e w1 ⟨v, rfl, hb1, _⟩))
    go_ret
    refine ⟨_, rfl, ?_, HB0.out.trans (hb1.mono HB0.out.size)⟩
    rw [← hres.out, HBB.out]
    exact ⟨fun _ _ => trivial, [], World.ownsRow_nil _ _ _ _, Reps.none _ _⟩
  · go_wp2_with (first | (go_at_call 68; refine (impl_bodyOf.calls _ _ _ _ _ _ _ HC.out.1 hc0_0 HC.out.2 hc0_1).mono ?_; rw [HBB.out]; rintro e w1 ⟨v, rfl, hb1, hx⟩; obtain ⟨n, ns, ev, rfl, _, _, hch, hev, hown⟩ := hx rfl; have n0 := hch.1.1; clear hch))
    go_ret
    refine ⟨_, rfl, ?_, HB0.out.trans (hb1.mono HB0.out.size)⟩
    rw [← hres.out, HBB.out]
    exact ⟨fun _ _ => trivial, _, by rw [if_pos rfl, List.length_map]; exact own_weaken hown HB0.out.size, by rw [if_pos rfl]; exact body_reps _ _ _ _ _ rfl⟩
end

end Go.Proofs.Ytehkklmacglelaa.PA
namespace Go.Proofs.Ytehkklmacglelaa.PA
open Go.RowKit Go.Proofs.YtehkklmacglelaaW.PrintWords Go.Proofs.YtehkklmacglelaaW.PrintLast Go.Proofs.YtehkklmacglelaaW.PrintMore
attribute [local go_sem] max2_int min2_int max_two min_two max_three min_three max_four min_four   -- for this text's walks alone
set_option linter.unusedVariables false
set_option linter.unusedSimpArgs false

/-! ### spec_l11Edges: function 73 -/
def spec_l11Edges.l0 : Nat → List (S35) → Int → List (S25) → List (List (S25)) → Option ((List (S35)))
 | 0, _, _, _, _ => none
 | k + 1, x3, x4, x656000, x656001 => if x4 < (x656001.length : Int) then (if 0 ≤ x4 then ((spec_l3Edges.f k (rd_L4 x656001 x4)).bind fun t660 => (if x3.length + t660.length < 4398046511104 then (spec_l11Edges.l0 k (x3 ++ t660) (wrap64 (x4 + 1)) x656000 x656001) else (none))) else (none)) else (some x3)
def spec_l11Edges.f (k : Nat) (l0_0 : List (S25)) (l0_1 : List (List (S25))) : Option ((List (S35))) := (spec_l3Edges.f k l0_0).bind fun t656 => (spec_l11Edges.l0 k t656 0 l0_0 l0_1)
theorem spec_l11Edges.mono_l : ∀ k, (∀ y0 y1 y2 y3, LeO (spec_l11Edges.l0 k y0 y1 y2 y3) (spec_l11Edges.l0 (k + 1) y0 y1 y2 y3))
 | 0 => fun _ _ _ _ r h => by simp [spec_l11Edges.l0] at h
 | k + 1 => by
  have ih0 := spec_l11Edges.mono_l k
  ·intro y0 y1 y2 y3; unfold spec_l11Edges.l0; repeat' first
   | (with_reducible exact ih0 _ _ _ _)
   | (with_reducible exact spec_l3Edges.mono _ _)
   | (with_reducible exact LeO.refl _)
   | (with_reducible exact LeO.none _)
   | (with_reducible refine LeO.ite ?_ ?_)
   | (with_reducible refine LeO.bind ?_ (fun _ => ?_))
   | exact ih0 _ _ _ _
   | exact spec_l3Edges.mono _ _
   | exact LeO.none _
   | refine LeO.ite ?_ ?_
   | refine LeO.bind ?_ (fun _ => ?_)
theorem spec_l11Edges.mono : ∀ a0 a1 k, LeO (spec_l11Edges.f k a0 a1) (spec_l11Edges.f (k + 1) a0 a1) := by
 intro a0 a1 k; have ih0 := spec_l11Edges.mono_l k; unfold spec_l11Edges.f; repeat' first
   | (with_reducible exact ih0 _ _ _ _)
   | (with_reducible exact spec_l3Edges.mono _ _)
   | (with_reducible exact LeO.refl _)
   | (with_reducible exact LeO.none _)
   | (with_reducible refine LeO.ite ?_ ?_)
   | (with_reducible refine LeO.bind ?_ (fun _ => ?_))
   | exact ih0 _ _ _ _
   | exact spec_l3Edges.mono _ _
   | exact LeO.none _
   | refine LeO.ite ?_ ?_
   | refine LeO.bind ?_ (fun _ => ?_)
set_option maxHeartbeats 8000000 in
set_option maxRecDepth 100000 in
theorem spec_l11Edges.calls (k : Nat) (A0_0 : Option Addr) (c0_0 : Nat) (l0_0 : List (S25)) (A0_1 : Option Addr) (c0_1 : Nat) (l0_1 : List (List (S25))) (r : List (S35)) (w : World) (hr0_0 : Kd.C k25 w A0_0 l0_0.length l0_0) (hc0_0 : l0_0.length ≤ c0_0) (hr0_1 : Kd.C (Kd.slice 25 k25) w A0_1 l0_1.length l0_1) (hc0_1 : l0_1.length ≤ c0_1) (h : spec_l11Edges.f k l0_0 l0_1 = some r) :
  Calls Try.prog 73 #[.agg #[.slice A0_0 l0_0.length c0_0, .slice A0_1 l0_1.length c0_1]] w fun e w' => ∃ v0_ : Value, e = .returned (v0_) ∧ Kd.R k35 35 w' w.heap.size (fun _ => True) v0_ r ∧ Below w.heap.size w w' := by
 have hu50 := Try.underlying50; have HR0_0 := A_ hr0_0; have HC0_0 := A_ hc0_0; clear hr0_0 hc0_0; have HR0_1 := A_ hr0_1; have HC0_1 := A_ hc0_1; clear hr0_1 hc0_1; have HB := A_ (Below.refl w.heap.size w); have H : ((spec_l3Edges.f k l0_0).bind fun t656 => (spec_l11Edges.l0 k t656 0 l0_0 l0_1)) = some r := h; clear h; replace H := Option.bind_eq_some_iff.mp H; obtain ⟨t656, A20, H⟩ := H; (try dsimp only at H); have A2 := A_ A20; clear A20; have H' := A_ H; clear H; go_enter Try.func73, Try.ntmps73
 go_wp2_with (first | ((with_reducible refine gate_dst (N := 1) rfl ?_); refine box_event ?hg (N := 1) ?hd (cs := #[.slice A0_0 l0_0.length c0_0, .slice A0_1 l0_1.length c0_1]) (t := 50) ?hr ?_; (case hd => rfl); (case hg => rfl); (case hr => first | (go_simp; done) | (go_simp; rfl)); intro gb655 hg w3 hbox hb; have n0_ := sb_ hb; have n1_ := A_ (hbox); have n2_ := lB_ hg; have n3_ := lB_ hg; clear HB; have HB := n0_; have BK655 := n1_; have GW655 := n2_; have GE655 := n3_; clear n0_ n1_ n2_ n3_; clear hb hbox hg; obtain ⟨hcz4_0, hcz4_1, hfz4_0, hfz4_1⟩ := by2 BK655.out) | ((with_reducible refine gate_callee (f := 52) rfl ?_); refine goesL_ (some 7) rfl rfl Try.func52 (by kernel_rfl) rfl #[.slice A0_0 l0_0.length c0_0] rfl ga_ ?_; (with_reducible refine (spec_l3Edges.calls k _ _ l0_0 t656 _ ?side1 ?side2 A2.out).mono ?_); (case side1 => exact pC_ (Kd.C_below HR0_0.out HB.out)); (case side2 => exact HC0_0.out); rintro e w5 ⟨v657, rfl, ho0, hb⟩; refine ⟨_, rfl, ?_⟩; have n0_ := A_ (Kd.R_lower ho0 (below_size hB_)); have n1_ := bw_ BK655.out hb; have n2_ := sb_ hb; clear BK655; clear HB; have HO658 := n0_; have BK655 := n1_; have HB := n2_; clear n0_ n1_ n2_; (try clear hb); (try clear ho0)))
 go_loopg [3, 4] k (fun kq v3 v4 w' => ∃ (x3_1 : List (S35)) (x4_1 : Int), v4 = .int .i64 x4_1 ∧ Aside0 (spec_l11Edges.l0 kq x3_1 x4_1 l0_0 l0_1 = some r) ∧ Aside0 (kq ≤ k) ∧ Aside0 (Kd.R k35 35 w' w.heap.size (fun _ => True) v3 x3_1) ∧ Aside0 (w'.heap[gb655]? = some (.cells #[(.slice A0_0 l0_0.length c0_0), (.slice A0_1 l0_1.length c0_1)] 50 (0, 0))) ∧ Aside0 (Below w.heap.size w w'))
 case atStart => exact ⟨(t656), (0), (by first | rfl | (simp; done) | (simp [*]; done)), H', ⟨Nat.le_refl _⟩, ⟨by (with_reducible repeat (first | apply Kd.R_alloc | apply Kd.R_drewN | apply Kd.R_drew)); exact HO658.out⟩, ⟨by (with_reducible repeat (first | refine blk_drewN ?_ _ | refine blk_drew ?_ | refine blk_alloc ?_ _)); exact BK655.out⟩, ⟨hB_⟩⟩
 case round =>
  clear H'; try clear p2
  try clear c5
  try clear hcz4_0
  try clear hcz4_1
  try clear hfz4_0
  try clear hfz4_1
  obtain ⟨x3_1, x4_1, rfl, HA, HK1, HO_3, BK655, HB⟩ := hrel; cases gk with
  | zero => exact absurd HA.out (by simp [spec_l11Edges.l0])
  | succ k1 =>
   have H := HA.out; clear HA; simp only [spec_l11Edges.l0] at H; by_cases c6 : x4_1 < (l0_1.length : Int)
   ·rw [if_pos c6] at H; have c6b0 : decide (x4_1 < (l0_1.length : Int)) = true := decide_eq_true c6; clear c6; by_cases c7 : 0 ≤ x4_1
    ·rw [if_pos c7] at H; have c7b0 : decide (0 ≤ x4_1) = true := decide_eq_true c7; clear c7; replace H := Option.bind_eq_some_iff.mp H; obtain ⟨t660, A80, H⟩ := H; (try dsimp only at H); have A8 := A_ A80; clear A80; by_cases c9 : x3_1.length + t660.length < 4398046511104
     ·rw [if_pos c9] at H; have LMc9 := A_ c9; clear c9; obtain ⟨y663, hy663⟩ : ∃ y_ : List (S35), y_ = (x3_1 ++ t660) := ⟨_, rfl⟩; replace H : (spec_l11Edges.l0 k1 y663 (wrap64 (x4_1 + 1)) l0_0 l0_1) = some r := by first | (rw [hy663]; with_reducible exact H) | (have H2_ := (Option.bind_some _ _).symm.trans H; rw [hy663]; with_reducible exact H2_) | (have H2_ := (Option.bind_some _ _).symm.trans H; with_reducible exact H2_) | with_reducible exact H | (rw [hy663]; exact H) | exact H
      have Ny663 := A_ hy663; clear hy663; have H' := A_ H; clear H; obtain ⟨hcz10_0, hcz10_1, hfz10_0, hfz10_1⟩ := by2 BK655.out; have p659 : 0 ≤ (x4_1 : Int) := of_decide_eq_true (by first | (with_reducible assumption) | assumption); have q659 : x4_1 < (l0_1.length : Int) := of_decide_eq_true (by first | (with_reducible assumption) | assumption); obtain ⟨ad659, A659_0, c659_0, e659, hx659_0, hl659_0, hi659_0⟩ := at_L4 HR0_1.out x4_1 p659 q659; cases e659; replace hx659_0 := (HB.out.cell (World.block_lt_of_cell? w _ hx659_0)).trans hx659_0; have HR659_0 := A_ hi659_0; have HC659_0 := A_ hl659_0; clear hi659_0 hl659_0; replace p659 := eq_true p659; replace q659 := eq_true q659; go_wp2_with (first | ((with_reducible refine gate_callee (f := 52) rfl ?_); refine goesL_ (some 21) rfl rfl Try.func52 (by kernel_rfl) rfl #[.slice A659_0 (rd_L4 l0_1 x4_1).length c659_0] rfl ga_ ?_; (with_reducible refine (spec_l3Edges.calls k1 _ _ (rd_L4 l0_1 x4_1) t660 _ ?side1 ?side2 A8.out).mono ?_); (case side1 => exact pC_ (Kd.C_below HR659_0.out HB.out)); (case side2 => exact HC659_0.out); rintro e w11 ⟨v661, rfl, ho0, hb⟩; refine ⟨_, rfl, ?_⟩; have n0_ := A_ (Kd.R_elder' (pR_ HO_3.out) (Kd.R_base ho0) hb); have n1_ := A_ (Kd.R_lower (Kd.R_new' ho0 (Kd.R_lt (pR_ HO_3.out))) (below_size hB_)); have n2_ := bw_ BK655.out hb; have n3_ := sb_ hb; clear HO_3; clear BK655; clear HB; have HO_3 := n0_; have HO662 := n1_; have BK655 := n2_; have HB := n3_; clear n0_ n1_ n2_ n3_; (try clear hb); (try clear hk); (try clear ho0); obtain ⟨Ao13, co13, eo13⟩ := Kd.R_slice HO662.out; subst eo13) | ((with_reducible refine gate_builtin (b := .append) (xs := #[.tmp 15, .tmp 21]) rfl ?_); at_builtin; refine Kd.R_append_rows k35 (w0 := w) w.heap.size rfl (.tmp 15) (.tmp 21) 31 35 (.agg #[(.int .i64 0), (.int .i64 0), (.int .i64 0), (.int .i64 0)]) 32 rfl Try.underlying31 info35 rfl (by decide) (by omega) u3 x3_1 t660 _ _ _ (fun k_ => some k_ ≠ (.slice Ao13 t660.length co13 : Value).ownBlock) (fun _ => False) rfl rfl ?aO ?aR (fun _ _ h => h) (fun _ h => h.elim) ?aF ?aB ?aS ?aL ?_; (case aR => repeat (first | exact (Kd.R_reads' HO662.out).2.2 | (with_reducible refine Kd.C_alloc ?_ _) | (with_reducible refine Kd.C_drewN ?_ _) | (with_reducible refine Kd.C_drew ?_))); (case aB => exact hB_); (case aF => exact (fun k_ hk => Kd.fresh' (Kd.R_lt (pR_ HO662.out)) k_ hk)); (case aO => exact (by (with_reducible repeat (first | apply Kd.R_alloc | apply Kd.R_drewN | apply Kd.R_drew)); exact Kd.R_mono HO_3.out (fun _ hk => hk.2))); (case aS => exact (below_size hB_)); (case aL => have := LMc9.out; omega); intro v664 w12 ho hb hg hat; rw [← Ny663.out] at ho; have n0_ := A_ (blk_grown (g := gb655) (o := .cells #[.slice A0_0 l0_0.length c0_0, .slice (some ad659) l0_1.length c0_1] 50 (0, 0)) pb_ hg (Kd.R_ne HO_3.out BK655.out (by decide))); have n1_ := A_ (Kd.R_after (ok := (fun _ => True)) (pR_ HO662.out) hg hat); have n2_ := A_ (hb); have n3_ := A_ (ho); clear BK655; clear HO662; clear HB; clear HO_3; have BK655 := n0_; have HO662 := n1_; have HB := n2_; have HO665 := n3_; clear n0_ n1_ n2_ n3_; clear ho hb hg hat))
      go_roundg k1
      case measure => have := HK1.out; omega
      case rel => exact ⟨(y663), (wrap64 (x4_1 + 1)), (by first | rfl | (simp; done) | (simp [*]; done)), H', ⟨by have := HK1.out; omega⟩, ⟨by (with_reducible repeat (first | apply Kd.R_alloc | apply Kd.R_drewN | apply Kd.R_drew)); exact Kd.R_mono HO665.out (fun _ hk => trivial)⟩, ⟨by (with_reducible repeat (first | refine blk_drewN ?_ _ | refine blk_drew ?_ | refine blk_alloc ?_ _)); exact BK655.out⟩, ⟨hB_⟩⟩
     ·rw [if_neg c9] at H; exact absurd H (by simp)
    ·rw [if_neg c7] at H; exact absurd H (by simp)
   ·rw [if_neg c6] at H; have c6b0 : decide (x4_1 < (l0_1.length : Int)) = false := decide_eq_false c6; clear c6; obtain rfl := Option.some.inj H; obtain ⟨hcz14_0, hcz14_1, hfz14_0, hfz14_1⟩ := by2 BK655.out; go_wp2
    go_ret
    exact ⟨_, by first | rfl | (simp [errW_none, errW_some] <;> rfl) | (simp [*, errW_none, errW_some] <;> rfl), by (with_reducible repeat (first | apply Kd.R_alloc | apply Kd.R_drewN | apply Kd.R_drew)); exact HO_3.out, hB_⟩

end Go.Proofs.Ytehkklmacglelaa.PA
namespace Go.Proofs.Ytehkklmacglelaa.PA
open Go.RowKit Go.Proofs.YtehkklmacglelaaW.PrintWords Go.Proofs.YtehkklmacglelaaW.PrintLast Go.Proofs.YtehkklmacglelaaW.PrintMore
attribute [local go_sem] max2_int min2_int max_two min_two max_three min_three max_four min_four   -- for this text's walks alone
set_option linter.unusedVariables false
set_option linter.unusedSimpArgs false

/-! ### spec_PlateEdges: function 34 -/
def spec_PlateEdges.f (k : Nat) (l0_0 : List (S25)) (l0_1 : List (List (S25))) : Option ((List (S35))) := (spec_PlateOk.f k l0_0 l0_1).bind fun t667 => (if t667 = true then ((spec_l11Edges.f k l0_0 l0_1).bind fun t668 => (some t668)) else (some (([] : List (S35)))))
theorem spec_PlateEdges.mono : ∀ a0 a1 k, LeO (spec_PlateEdges.f k a0 a1) (spec_PlateEdges.f (k + 1) a0 a1) := by
 intro a0 a1 k; unfold spec_PlateEdges.f; repeat' first
   | (with_reducible exact spec_PlateOk.mono _ _ _)
   | (with_reducible exact spec_l11Edges.mono _ _ _)
   | (with_reducible exact LeO.refl _)
   | (with_reducible exact LeO.none _)
   | (with_reducible refine LeO.ite ?_ ?_)
   | (with_reducible refine LeO.bind ?_ (fun _ => ?_))
   | exact spec_PlateOk.mono _ _ _
   | exact spec_l11Edges.mono _ _ _
   | exact LeO.none _
   | refine LeO.ite ?_ ?_
   | refine LeO.bind ?_ (fun _ => ?_)
set_option maxHeartbeats 8000000 in
set_option maxRecDepth 100000 in
theorem spec_PlateEdges.calls (k : Nat) (A0_0 : Option Addr) (c0_0 : Nat) (l0_0 : List (S25)) (A0_1 : Option Addr) (c0_1 : Nat) (l0_1 : List (List (S25))) (r : List (S35)) (w : World) (hr0_0 : Kd.C k25 w A0_0 l0_0.length l0_0) (hc0_0 : l0_0.length ≤ c0_0) (hr0_1 : Kd.C (Kd.slice 25 k25) w A0_1 l0_1.length l0_1) (hc0_1 : l0_1.length ≤ c0_1) (h : spec_PlateEdges.f k l0_0 l0_1 = some r) :
  Calls Try.prog 34 #[.agg #[.slice A0_0 l0_0.length c0_0, .slice A0_1 l0_1.length c0_1]] w fun e w' => ∃ v0_ : Value, e = .returned (v0_) ∧ Kd.R k35 35 w' w.heap.size (fun _ => True) v0_ r ∧ Below w.heap.size w w' := by
 have hu50 := Try.underlying50; have HR0_0 := A_ hr0_0; have HC0_0 := A_ hc0_0; clear hr0_0 hc0_0; have HR0_1 := A_ hr0_1; have HC0_1 := A_ hc0_1; clear hr0_1 hc0_1; have HB := A_ (Below.refl w.heap.size w); have H : ((spec_PlateOk.f k l0_0 l0_1).bind fun t667 => (if t667 = true then ((spec_l11Edges.f k l0_0 l0_1).bind fun t668 => (some t668)) else (some (([] : List (S35)))))) = some r := h; clear h; replace H := Option.bind_eq_some_iff.mp H; obtain ⟨t667, A20, H⟩ := H; (try dsimp only at H); have A2 := A_ A20; clear A20; by_cases c3 : t667 = true
 ·subst c3; have H1 : ((spec_l11Edges.f k l0_0 l0_1).bind fun t668 => (some t668)) = some r := by rw [if_pos rfl] at H; exact H
  clear H; have H := H1; clear H1; replace H := Option.bind_eq_some_iff.mp H; obtain ⟨t668, A40, H⟩ := H; (try dsimp only at H); have A4 := A_ A40; clear A40; obtain rfl := Option.some.inj H; go_enter Try.func34, Try.ntmps34
  go_wp2_with (first | ((with_reducible refine gate_dst (N := 1) rfl ?_); refine box_event ?hg (N := 1) ?hd (cs := #[.slice A0_0 l0_0.length c0_0, .slice A0_1 l0_1.length c0_1]) (t := 50) ?hr ?_; (case hd => rfl); (case hg => rfl); (case hr => first | (go_simp; done) | (go_simp; rfl)); intro gb666 hg w5 hbox hb; have n0_ := sb_ hb; have n1_ := A_ (hbox); have n2_ := lB_ hg; have n3_ := lB_ hg; clear HB; have HB := n0_; have BK666 := n1_; have GW666 := n2_; have GE666 := n3_; clear n0_ n1_ n2_ n3_; clear hb hbox hg; obtain ⟨hcz6_0, hcz6_1, hfz6_0, hfz6_1⟩ := by2 BK666.out) | ((with_reducible refine gate_callee (f := 27) rfl ?_); refine goesL_ (some 4) rfl rfl Try.func27 (by kernel_rfl) rfl #[.agg #[.slice A0_0 l0_0.length c0_0, .slice A0_1 l0_1.length c0_1]] rfl ga_ ?_; (with_reducible refine (spec_PlateOk.calls k _ _ l0_0 _ _ l0_1 true _ ?side1 ?side2 ?side3 ?side4 A2.out).mono ?_); (case side1 => exact pC_ (Kd.C_below HR0_0.out HB.out)); (case side2 => exact HC0_0.out); (case side3 => exact pC_ (Kd.C_below HR0_1.out HB.out)); (case side4 => exact HC0_1.out); rintro e w7 ⟨rfl, hb⟩; refine ⟨_, rfl, ?_⟩; have n0_ := bw_ BK666.out hb; have n1_ := sb_ hb; clear BK666 HB; revert n0_ n1_; intro BK666 HB; (try clear hb); obtain ⟨hcz8_0, hcz8_1, hfz8_0, hfz8_1⟩ := by2 BK666.out) | ((with_reducible refine gate_callee (f := 73) rfl ?_); refine goesL_ (some 8) rfl rfl Try.func73 (by kernel_rfl) rfl #[.agg #[.slice A0_0 l0_0.length c0_0, .slice A0_1 l0_1.length c0_1]] rfl ga_ ?_; (with_reducible refine (spec_l11Edges.calls k _ _ l0_0 _ _ l0_1 t668 _ ?side1 ?side2 ?side3 ?side4 A4.out).mono ?_); (case side1 => exact pC_ (Kd.C_below HR0_0.out HB.out)); (case side2 => exact HC0_0.out); (case side3 => exact pC_ (Kd.C_below HR0_1.out HB.out)); (case side4 => exact HC0_1.out); rintro e w9 ⟨v669, rfl, ho0, hb⟩; refine ⟨_, rfl, ?_⟩; have n0_ := A_ (Kd.R_lower ho0 (below_size hB_)); have n1_ := bw_ BK666.out hb; have n2_ := sb_ hb; clear BK666; clear HB; have HO670 := n0_; have BK666 := n1_; have HB := n2_; clear n0_ n1_ n2_; (try clear hb); (try clear ho0)))
  go_ret
  exact ⟨_, by first | rfl | (simp [errW_none, errW_some] <;> rfl) | (simp [*, errW_none, errW_some] <;> rfl), by (with_reducible repeat (first | apply Kd.R_alloc | apply Kd.R_drewN | apply Kd.R_drew)); exact HO670.out, hB_⟩
 ·replace c3 := Bool.eq_false_iff.mpr c3; subst c3; have H1 : (some (([] : List (S35)))) = some r := by rw [if_neg (show ¬ (false = true) by decide)] at H; exact H
  clear H; have H := H1; clear H1; obtain ⟨y671, hy671⟩ : ∃ y_ : List (S35), y_ = (([] : List (S35))) := ⟨_, rfl⟩; replace H : (some y671) = some r := by first | (rw [hy671]; with_reducible exact H) | (have H2_ := (Option.bind_some _ _).symm.trans H; rw [hy671]; with_reducible exact H2_) | (have H2_ := (Option.bind_some _ _).symm.trans H; with_reducible exact H2_) | with_reducible exact H | (rw [hy671]; exact H) | exact H
  have Ny671 := A_ hy671; clear hy671; obtain rfl := Option.some.inj H; go_enter Try.func34, Try.ntmps34
  go_wp2_with (first | ((with_reducible refine gate_dst (N := 1) rfl ?_); refine box_event ?hg (N := 1) ?hd (cs := #[.slice A0_0 l0_0.length c0_0, .slice A0_1 l0_1.length c0_1]) (t := 50) ?hr ?_; (case hd => rfl); (case hg => rfl); (case hr => first | (go_simp; done) | (go_simp; rfl)); intro gb666 hg w10 hbox hb; have n0_ := sb_ hb; have n1_ := A_ (hbox); have n2_ := lB_ hg; have n3_ := lB_ hg; clear HB; have HB := n0_; have BK666 := n1_; have GW666 := n2_; have GE666 := n3_; clear n0_ n1_ n2_ n3_; clear hb hbox hg; obtain ⟨hcz11_0, hcz11_1, hfz11_0, hfz11_1⟩ := by2 BK666.out) | ((with_reducible refine gate_callee (f := 27) rfl ?_); refine goesL_ (some 4) rfl rfl Try.func27 (by kernel_rfl) rfl #[.agg #[.slice A0_0 l0_0.length c0_0, .slice A0_1 l0_1.length c0_1]] rfl ga_ ?_; (with_reducible refine (spec_PlateOk.calls k _ _ l0_0 _ _ l0_1 false _ ?side1 ?side2 ?side3 ?side4 A2.out).mono ?_); (case side1 => exact pC_ (Kd.C_below HR0_0.out HB.out)); (case side2 => exact HC0_0.out); (case side3 => exact pC_ (Kd.C_below HR0_1.out HB.out)); (case side4 => exact HC0_1.out); rintro e w12 ⟨rfl, hb⟩; refine ⟨_, rfl, ?_⟩; have n0_ := bw_ BK666.out hb; have n1_ := sb_ hb; clear BK666 HB; revert n0_ n1_; intro BK666 HB; (try clear hb); (try clear hk); (try clear hi)) | ((with_reducible refine gate_dst (N := 6) rfl ?_); refine Kd.R_lit k35 _ 35 ?hg (N := 6) ?hd (xs := ([] : List (S35))) (inner := []) (ok := fun _ => True) (okp := fun _ => True) ?hr ?hp (fun _ hk => hk) trivial (Below.refl _ _) (Nat.le_refl _) (by simp) ?_; (case hd => rfl); (case hg => rfl); (case hr => first | (go_simp; done) | (go_simp; rfl)); (case hp => exact (Reps.none _ _)); intro v672 w13 ho14 hb hg_ hnew_; clear hg_ hnew_; (first | rw [← Ny671.out] at ho14 | (simp only [Int.reduceToNat] at ho14; rw [← Ny671.out] at ho14)); have n0_ := A_ (Kd.R_lower ho14 (below_size hB_)); have n1_ := bw_ BK666.out hb; have n2_ := sb_ hb; clear BK666; clear HB; have HO673 := n0_; have BK666 := n1_; have HB := n2_; clear n0_ n1_ n2_; clear hb ho14))
  go_ret
  exact ⟨_, by first | rfl | (simp [errW_none, errW_some] <;> rfl) | (simp [*, errW_none, errW_some] <;> rfl), by (with_reducible repeat (first | apply Kd.R_alloc | apply Kd.R_drewN | apply Kd.R_drew)); exact HO673.out, hB_⟩

end Go.Proofs.Ytehkklmacglelaa.PA
namespace Go.Proofs.Ytehkklmacglelaa.PA
open Go.RowKit Go.Proofs.YtehkklmacglelaaW.PrintWords Go.Proofs.YtehkklmacglelaaW.PrintLast Go.Proofs.YtehkklmacglelaaW.PrintMore
attribute [local go_sem] max2_int min2_int max_two min_two max_three min_three max_four min_four   -- for this text's walks alone
set_option linter.unusedVariables false
set_option linter.unusedSimpArgs false

attribute [local go_sem high] eqA35
/-! ### laws_FnPlateEdges: function 7 -/
mutual
def laws_FnPlateEdges.j0 : Nat → List (S35) → List (S35) → Bool → List (S25) → List (List (S25)) → Option (Bool)
 | 0, _, _, _, _, _ => none
 | k + 1, x4, x5, x29, x681000, x681001 => if x29 = true then (some ((x4.length : Int) == (x5.length : Int))) else ((impl_LoopEdges.f x681000).bind fun t687 => (laws_FnPlateEdges.l0 k x4 t687 (t687.length : Int) 0 x681000 x681001))
def laws_FnPlateEdges.l0 : Nat → List (S35) → List (S35) → Int → Int → List (S25) → List (List (S25)) → Option (Bool)
 | 0, _, _, _, _, _, _ => none
 | k + 1, x4, x6, x7, x8, x681000, x681001 => if x8 < (x681001.length : Int) then (if 0 ≤ x8 then ((impl_LoopEdges.f (rd_L4 x681001 x8)).bind fun t691 => (if x6.length + t691.length < 4398046511104 then (laws_FnPlateEdges.l0 k x4 (x6 ++ t691) x7 (wrap64 (x8 + 1)) x681000 x681001) else (none))) else (none)) else (if (x6.length : Int) = (x4.length : Int) then (laws_FnPlateEdges.l1 k x4 x6 x7 0) else (some false))
def laws_FnPlateEdges.l1 : Nat → List (S35) → List (S35) → Int → Int → Option (Bool)
 | 0, _, _, _, _ => none
 | k + 1, x4, x6, x7, x9 => if x9 < (x4.length : Int) then (if 0 ≤ x9 then (if x9 < (x6.length : Int) then (if ((!(((rd_T35 x4 x9).f0.f0) == ((rd_T35 x6 x9).f0.f0)) || (!(((rd_T35 x4 x9).f0.f1) == ((rd_T35 x6 x9).f0.f1)))) || ((!(((rd_T35 x4 x9).f1.f0) == ((rd_T35 x6 x9).f1.f0)) || (!(((rd_T35 x4 x9).f1.f1) == ((rd_T35 x6 x9).f1.f1)))))) = true then (some false) else (laws_FnPlateEdges.l2 k x4 x6 x7 x9 0)) else (none)) else (none)) else (some true)
def laws_FnPlateEdges.l2 : Nat → List (S35) → List (S35) → Int → Int → Int → Option (Bool)
 | 0, _, _, _, _, _ => none
 | k + 1, x4, x6, x7, x9, x10 => if x10 < x7 then (if x9 ≥ x7 then (if 0 ≤ x9 then (if x9 < (x4.length : Int) then (if 0 ≤ x10 then (if x10 < (x4.length : Int) then ((impl_SegMeet.f k ((rd_T35 x4 x9).f0.f0) ((rd_T35 x4 x9).f0.f1) ((rd_T35 x4 x9).f1.f0) ((rd_T35 x4 x9).f1.f1) ((rd_T35 x4 x10).f0.f0) ((rd_T35 x4 x10).f0.f1) ((rd_T35 x4 x10).f1.f0) ((rd_T35 x4 x10).f1.f1)).bind fun t701 => (if t701 = true then (some false) else (laws_FnPlateEdges.l2 k x4 x6 x7 x9 (wrap64 (x10 + 1))))) else (none)) else (none)) else (none)) else (none)) else (laws_FnPlateEdges.l2 k x4 x6 x7 x9 (wrap64 (x10 + 1)))) else (laws_FnPlateEdges.l1 k x4 x6 x7 (wrap64 (x9 + 1)))
end
def laws_FnPlateEdges.f (k : Nat) (l0 : List Int) : Option (Bool) := if (l0.length : Int) > 1048576 then (some true) else ((spec_DrawPlateEdges.f k l0).bind fun bt674 => ((impl_PlateEdges.f bt674.1 bt674.2).bind fun t681 => ((spec_PlateEdges.f k bt674.1 bt674.2).bind fun t684 => (if (t681.length : Int) = (t684.length : Int) then (laws_FnPlateEdges.j0 k t681 t684 ((t681.length : Int) == 0) bt674.1 bt674.2) else (laws_FnPlateEdges.j0 k t681 t684 true bt674.1 bt674.2)))))
theorem laws_FnPlateEdges.mono_l : ∀ k, (∀ y0 y1 y2 y3 y4, LeO (laws_FnPlateEdges.j0 k y0 y1 y2 y3 y4) (laws_FnPlateEdges.j0 (k + 1) y0 y1 y2 y3 y4)) ∧ (∀ y0 y1 y2 y3 y4 y5, LeO (laws_FnPlateEdges.l0 k y0 y1 y2 y3 y4 y5) (laws_FnPlateEdges.l0 (k + 1) y0 y1 y2 y3 y4 y5)) ∧ (∀ y0 y1 y2 y3, LeO (laws_FnPlateEdges.l1 k y0 y1 y2 y3) (laws_FnPlateEdges.l1 (k + 1) y0 y1 y2 y3)) ∧ (∀ y0 y1 y2 y3 y4, LeO (laws_FnPlateEdges.l2 k y0 y1 y2 y3 y4) (laws_FnPlateEdges.l2 (k + 1) y0 y1 y2 y3 y4))
 | 0 => ⟨fun _ _ _ _ _ r h => by simp [laws_FnPlateEdges.j0] at h, fun _ _ _ _ _ _ r h => by simp [laws_FnPlateEdges.l0] at h, fun _ _ _ _ r h => by simp [laws_FnPlateEdges.l1] at h, fun _ _ _ _ _ r h => by simp [laws_FnPlateEdges.l2] at h⟩
 | k + 1 => by
  obtain ⟨ih0, ih1, ih2, ih3⟩ := laws_FnPlateEdges.mono_l k; refine ⟨?_, ?_, ?_, ?_⟩
  ·intro y0 y1 y2 y3 y4; unfold laws_FnPlateEdges.j0; repeat' first
   | (with_reducible exact ih0 _ _ _ _ _)
   | (with_reducible exact ih1 _ _ _ _ _ _)
   | (with_reducible exact ih2 _ _ _ _)
   | (with_reducible exact ih3 _ _ _ _ _)
   | (with_reducible exact impl_SegMeet.mono _ _ _ _ _ _ _ _ _)
   | (with_reducible exact spec_DrawPlateEdges.mono _ _)
   | (with_reducible exact spec_PlateEdges.mono _ _ _)
   | (with_reducible exact LeO.refl _)
   | (with_reducible exact LeO.none _)
   | (with_reducible refine LeO.ite ?_ ?_)
   | (with_reducible refine LeO.bind ?_ (fun _ => ?_))
   | exact ih0 _ _ _ _ _
   | exact ih1 _ _ _ _ _ _
   | exact ih2 _ _ _ _
   | exact ih3 _ _ _ _ _
   | exact impl_SegMeet.mono _ _ _ _ _ _ _ _ _
   | exact spec_DrawPlateEdges.mono _ _
   | exact spec_PlateEdges.mono _ _ _
   | exact LeO.none _
   | refine LeO.ite ?_ ?_
   | refine LeO.bind ?_ (fun _ => ?_)
  ·intro y0 y1 y2 y3 y4 y5; unfold laws_FnPlateEdges.l0; repeat' first
   | (with_reducible exact ih0 _ _ _ _ _)
   | (with_reducible exact ih1 _ _ _ _ _ _)
   | (with_reducible exact ih2 _ _ _ _)
   | (with_reducible exact ih3 _ _ _ _ _)
   | (with_reducible exact impl_SegMeet.mono _ _ _ _ _ _ _ _ _)
   | (with_reducible exact spec_DrawPlateEdges.mono _ _)
   | (with_reducible exact spec_PlateEdges.mono _ _ _)
   | (with_reducible exact LeO.refl _)
   | (with_reducible exact LeO.none _)
   | (with_reducible refine LeO.ite ?_ ?_)
   | (with_reducible refine LeO.bind ?_ (fun _ => ?_))
   | exact ih0 _ _ _ _ _
   | exact ih1 _ _ _ _ _ _
   | exact ih2 _ _ _ _
   | exact ih3 _ _ _ _ _
   | exact impl_SegMeet.mono _ _ _ _ _ _ _ _ _
   | exact spec_DrawPlateEdges.mono _ _
   | exact spec_PlateEdges.mono _ _ _
   | exact LeO.none _
   | refine LeO.ite ?_ ?_
   | refine LeO.bind ?_ (fun _ => ?_)
  ·intro y0 y1 y2 y3; unfold laws_FnPlateEdges.l1; repeat' first
   | (with_reducible exact ih0 _ _ _ _ _)
   | (with_reducible exact ih1 _ _ _ _ _ _)
   | (with_reducible exact ih2 _ _ _ _)
   | (with_reducible exact ih3 _ _ _ _ _)
   | (with_reducible exact impl_SegMeet.mono _ _ _ _ _ _ _ _ _)
   | (with_reducible exact spec_DrawPlateEdges.mono _ _)
   | (with_reducible exact spec_PlateEdges.mono _ _ _)
   | (with_reducible exact LeO.refl _)
   | (with_reducible exact LeO.none _)
   | (with_reducible refine LeO.ite ?_ ?_)
   | (with_reducible refine LeO.bind ?_ (fun _ => ?_))
   | exact ih0 _ _ _ _ _
   | exact ih1 _ _ _ _ _ _
   | exact ih2 _ _ _ _
   | exact ih3 _ _ _ _ _
   | exact impl_SegMeet.mono _ _ _ _ _ _ _ _ _
   | exact spec_DrawPlateEdges.mono _ _
   | exact spec_PlateEdges.mono _ _ _
   | exact LeO.none _
   | refine LeO.ite ?_ ?_
   | refine LeO.bind ?_ (fun _ => ?_)
  ·intro y0 y1 y2 y3 y4; unfold laws_FnPlateEdges.l2; repeat' first
   | (with_reducible exact ih0 _ _ _ _ _)
   | (with_reducible exact ih1 _ _ _ _ _ _)
   | (with_reducible exact ih2 _ _ _ _)
   | (with_reducible exact ih3 _ _ _ _ _)
   | (with_reducible exact impl_SegMeet.mono _ _ _ _ _ _ _ _ _)
   | (with_reducible exact spec_DrawPlateEdges.mono _ _)
   | (with_reducible exact spec_PlateEdges.mono _ _ _)
   | (with_reducible exact LeO.refl _)
   | (with_reducible exact LeO.none _)
   | (with_reducible refine LeO.ite ?_ ?_)
   | (with_reducible refine LeO.bind ?_ (fun _ => ?_))
   | exact ih0 _ _ _ _ _
   | exact ih1 _ _ _ _ _ _
   | exact ih2 _ _ _ _
   | exact ih3 _ _ _ _ _
   | exact impl_SegMeet.mono _ _ _ _ _ _ _ _ _
   | exact spec_DrawPlateEdges.mono _ _
   | exact spec_PlateEdges.mono _ _ _
   | exact LeO.none _
   | refine LeO.ite ?_ ?_
   | refine LeO.bind ?_ (fun _ => ?_)
theorem laws_FnPlateEdges.mono : ∀ a0 k, LeO (laws_FnPlateEdges.f k a0) (laws_FnPlateEdges.f (k + 1) a0) := by
 intro a0 k; obtain ⟨ih0, ih1, ih2, ih3⟩ := laws_FnPlateEdges.mono_l k; unfold laws_FnPlateEdges.f; repeat' first
   | (with_reducible exact ih0 _ _ _ _ _)
   | (with_reducible exact ih1 _ _ _ _ _ _)
   | (with_reducible exact ih2 _ _ _ _)
   | (with_reducible exact ih3 _ _ _ _ _)
   | (with_reducible exact impl_SegMeet.mono _ _ _ _ _ _ _ _ _)
   | (with_reducible exact spec_DrawPlateEdges.mono _ _)
   | (with_reducible exact spec_PlateEdges.mono _ _ _)
   | (with_reducible exact LeO.refl _)
   | (with_reducible exact LeO.none _)
   | (with_reducible refine LeO.ite ?_ ?_)
   | (with_reducible refine LeO.bind ?_ (fun _ => ?_))
   | exact ih0 _ _ _ _ _
   | exact ih1 _ _ _ _ _ _
   | exact ih2 _ _ _ _
   | exact ih3 _ _ _ _ _
   | exact impl_SegMeet.mono _ _ _ _ _ _ _ _ _
   | exact spec_DrawPlateEdges.mono _ _
   | exact spec_PlateEdges.mono _ _ _
   | exact LeO.none _
   | refine LeO.ite ?_ ?_
   | refine LeO.bind ?_ (fun _ => ?_)
def laws_FnPlateEdges.T19 : Bool × List (List Nat × List Nat) := (true, [([], []), ([], []), ([0, 1], [0, 1]), ([2], [2]), ([], []), ([], []), ([4, 5], [4, 5]), ([6], [6]), ([3, 7], [3, 7])])
def laws_FnPlateEdges.B19 : List Nat := [0, 0, 3, 7, 0, 0, 48, 112, 255]
theorem laws_FnPlateEdges.tab19 : rtab .any (opsOf Try.f7 19) = laws_FnPlateEdges.T19 := by kernel_rfl
theorem laws_FnPlateEdges.bits19 : waitsOk laws_FnPlateEdges.T19.2 laws_FnPlateEdges.B19 = true := by kernel_rfl
def laws_FnPlateEdges.T24 : Bool × List (List Nat × List Nat) := (true, [([], []), ([], []), ([0, 1], [0, 1]), ([2], [2]), ([3], [3]), ([3], [3]), ([4, 5, 3], [3, 4, 5]), ([6, 3], [3, 6]), ([3], [3]), ([3], [3]), ([8, 9, 3], [3, 8, 9]), ([10, 3], [3, 10]), ([7, 11, 3, 3], [3, 7, 11]), ([3, 12], [3, 12])])
def laws_FnPlateEdges.B24 : List Nat := [0, 0, 3, 7, 15, 15, 63, 127, 15, 15, 783, 1807, 4095, 8191]
theorem laws_FnPlateEdges.tab24 : rtab .any (opsOf Try.f7 24) = laws_FnPlateEdges.T24 := by kernel_rfl
theorem laws_FnPlateEdges.bits24 : waitsOk laws_FnPlateEdges.T24.2 laws_FnPlateEdges.B24 = true := by kernel_rfl
set_option maxHeartbeats 8000000 in
set_option maxRecDepth 100000 in
theorem laws_FnPlateEdges.calls (k : Nat) (A0 : Option Addr) (c0 : Nat) (l0 : List Int) (r : Bool) (w : World) (hr0 : Kd.C (Kd.int .u8) w A0 l0.length l0) (hc0 : l0.length ≤ c0) (h : laws_FnPlateEdges.f k l0 = some r) :
  Calls Try.prog 7 #[.slice A0 l0.length c0] w fun e w' => e = .returned (.bool r) ∧ Below w.heap.size w w' := by
 have hu50 := Try.underlying50; have hu35 := Try.underlying35; have HR0 := A_ hr0; have HC0 := A_ hc0; clear hr0 hc0; have HB := A_ (Below.refl w.heap.size w); have H : (if (l0.length : Int) > 1048576 then (some true) else ((spec_DrawPlateEdges.f k l0).bind fun bt674 => ((impl_PlateEdges.f bt674.1 bt674.2).bind fun t681 => ((spec_PlateEdges.f k bt674.1 bt674.2).bind fun t684 => (if (t681.length : Int) = (t684.length : Int) then (laws_FnPlateEdges.j0 k t681 t684 ((t681.length : Int) == 0) bt674.1 bt674.2) else (laws_FnPlateEdges.j0 k t681 t684 true bt674.1 bt674.2)))))) = some r := h; clear h; by_cases c2 : (l0.length : Int) > 1048576
 ·rw [if_pos c2] at H; have c2b0 : decide (1048576 < (l0.length : Int)) = true := decide_eq_true c2; have c2b1 : decide (1048576 < l0.length) = true := decide_eq_true (by omega); clear c2; obtain rfl := Option.some.inj H; go_enter Try.func7, Try.ntmps7
  go_wp2
  go_ret
  exact ⟨by first | rfl | (simp [errW_none, errW_some] <;> rfl) | (simp [*, errW_none, errW_some] <;> rfl), hB_⟩
 ·rw [if_neg c2] at H; have c2b0 : decide (1048576 < (l0.length : Int)) = false := decide_eq_false c2; have c2b1 : decide (1048576 < l0.length) = false := decide_eq_false (by omega); clear c2; replace H := Option.bind_eq_some_iff.mp H; obtain ⟨⟨t674, t677⟩, A30, H⟩ := H; (try dsimp only at H); have A3 := A_ A30; clear A30; replace H := Option.bind_eq_some_iff.mp H; obtain ⟨t681, A40, H⟩ := H; (try dsimp only at H); have A4 := A_ A40; clear A40; replace H := Option.bind_eq_some_iff.mp H; obtain ⟨t684, A50, H⟩ := H; (try dsimp only at H); have A5 := A_ A50; clear A50; have HC6 := A_ H; clear H; go_enter Try.func7, Try.ntmps7
  go_upto_region 6 with (first | ((with_reducible refine gate_callee (f := 32) rfl ?_); refine goesL_ (some 15) rfl rfl Try.func32 (by kernel_rfl) rfl #[.slice A0 l0.length c0] rfl ga_ ?_; (with_reducible refine (spec_DrawPlateEdges.calls k _ _ l0 t674 t677 _ ?side1 ?side2 A3.out).mono ?_); (case side1 => exact pC_ HR0.out); (case side2 => exact HC0.out); rintro e w7 ⟨v675, v678, rfl, ho0, ho1, hb⟩; refine ⟨_, rfl, ?_⟩; have n0_ := A_ (Kd.R_lower (Kd.R_mono (ok' := fun k_ => True) ho0 (fun _ hk_ => trivial)) (below_size hB_)); have n1_ := A_ (Kd.N_lower (Kd.N_mono (ok' := fun k_ => some k_ ≠ (v675 : Value).ownBlock) ho1 (fun k_ hk_ => hk_.2)) (below_size hB_)); have n2_ := sb_ hb; clear HB; have HO676 := n0_; have HO679 := n1_; have HB := n2_; clear n0_ n1_ n2_; (try clear hb); (try clear hk); (try clear ho0); (try clear ho1)) | ((with_reducible refine gate_dst (N := 3) rfl ?_); refine box_event ?hg (N := 3) ?hd (cs := #[.slice none 0 0, .slice none 0 0]) (t := 50) ?hr ?_; (case hd => rfl); (case hg => rfl); (case hr => first | (go_simp; done) | (go_simp; rfl)); intro gb680 hg w8 hbox hb; have n0_ := A_ (Kd.R_below (pR_ HO676.out) hb); have n1_ := A_ (Kd.N_below (Kd.N_elderB (pN_ HO679.out) gb680 (Nat.le_of_eq hg.symm)) hb); have n2_ := sb_ hb; have n3_ := A_ (hbox); have n4_ := lB_ hg; have n5_ := lB_ hg; clear HO676; clear HO679; clear HB; have HO676 := n0_; have HO679 := n1_; have HB := n2_; have BK680 := n3_; have GW680 := n4_; have GE680 := n5_; clear n0_ n1_ n2_ n3_ n4_ n5_; clear hb hbox hg; obtain ⟨Ao9, co9, eo9⟩ := Kd.R_slice HO676.out; subst eo9; obtain ⟨hcz10_0, hcz10_1, hfz10_0, hfz10_1⟩ := by2 BK680.out; obtain ⟨Ao11, co11, eo11⟩ := Kd.N_slice HO679.out; subst eo11) | ((with_reducible refine gate_callee (f := 33) rfl ?_); refine goesL_ (some 17) rfl rfl Try.func33 (by kernel_rfl) rfl #[.agg #[.slice Ao9 t674.length co9, .slice Ao11 t677.length co11]] rfl ga_ ?_; (with_reducible refine (impl_PlateEdges.calls _ _ t674 _ _ t677 t681 _ ?side1 ?side2 ?side3 ?side4 A4.out).mono ?_); (case side1 => refine (Kd.R_reads' (e := 25) (base := w.heap.size) (ok := fun k_ => True) (n := t674.length) (c := co9) ?_).2.2; exact (by (with_reducible repeat (first | apply Kd.R_alloc | apply Kd.R_drewN | apply Kd.R_drew)); exact (Kd.R_mono (Kd.R_far (p := ⟨gb680, 1, none⟩) (Kd.R_far (p := ⟨gb680, 0, none⟩) (Kd.R_types HO676.out BK680.out (by decide)) (fun _ hk => hk.2) (.slice Ao9 t674.length co9)) (fun _ hk => hk.2) (.slice Ao11 t677.length co11)) (fun _ h_ => h_.1)))); (case side2 => exact (Kd.R_reads' HO676.out).2.1); (case side3 => refine (Kd.N_reads' (e := 23) (base := w.heap.size) (ok := fun k_ => (some k_ ≠ (.slice Ao9 t674.length co9 : Value).ownBlock ∧ k_ ≠ gb680)) (n := t677.length) (c := co11) ?_).2.2; exact (by (with_reducible repeat (first | apply Kd.N_alloc | apply Kd.N_drewN | apply Kd.N_drew)); exact (Kd.N_mono (Kd.N_far (p := ⟨gb680, 1, none⟩) (Kd.N_far (p := ⟨gb680, 0, none⟩) (Kd.N_mono HO679.out (fun k_ hk => (⟨hk, hk.2⟩ : _ ∧ k_ ≠ gb680))) (fun _ hk => hk.2) (.slice Ao9 t674.length co9)) (fun _ hk => hk.2) (.slice Ao11 t677.length co11)) (fun _ h_ => h_.1)))); (case side4 => exact (Kd.N_reads' HO679.out).2.1); rintro e w12 ⟨v682, rfl, ho0, hb⟩; refine ⟨_, rfl, ?_⟩; have n0_ := A_ (Kd.R_below (by (with_reducible repeat (first | apply Kd.R_alloc | apply Kd.R_drewN | apply Kd.R_drew)); exact (Kd.R_mono (Kd.R_far (p := ⟨gb680, 1, none⟩) (Kd.R_far (p := ⟨gb680, 0, none⟩) (Kd.R_types HO676.out BK680.out (by decide)) (fun _ hk => hk.2) (.slice Ao9 t674.length co9)) (fun _ hk => hk.2) (.slice Ao11 t677.length co11)) (fun _ h_ => h_.1))) hb); have n1_ := A_ (Kd.N_elder' (by (with_reducible repeat (first | apply Kd.N_alloc | apply Kd.N_drewN | apply Kd.N_drew)); exact (Kd.N_mono (Kd.N_far (p := ⟨gb680, 1, none⟩) (Kd.N_far (p := ⟨gb680, 0, none⟩) (Kd.N_mono HO679.out (fun k_ hk => (⟨hk, hk.2⟩ : _ ∧ k_ ≠ gb680))) (fun _ hk => hk.2) (.slice Ao9 t674.length co9)) (fun _ hk => hk.2) (.slice Ao11 t677.length co11)) (fun _ h_ => h_.1))) (Kd.R_base ho0) hb); have n2_ := A_ (Kd.R_lower ho0 (below_size hB_)); have n3_ := A_ (blk_below (g := gb680) (o := .cells #[.slice Ao9 t674.length co9, .slice Ao11 t677.length co11] 50 (0, 0)) (by (with_reducible repeat (first | refine blk_drewN ?_ _ | refine blk_drew ?_ | refine blk_alloc ?_ _)); refine blk_put (cs := #[.slice Ao9 t674.length co9, .slice none 0 0]) ?_ 1 _ rfl; (with_reducible repeat (first | refine blk_drewN ?_ _ | refine blk_drew ?_ | refine blk_alloc ?_ _)); refine blk_put (cs := #[.slice none 0 0, .slice none 0 0]) ?_ 0 _ rfl; (with_reducible repeat (first | refine blk_drewN ?_ _ | refine blk_drew ?_ | refine blk_alloc ?_ _)); exact BK680.out) hb); have n4_ := sb_ hb; clear HO676; clear HO679; clear BK680; clear HB; have HO676 := n0_; have HO679 := n1_; have HO683 := n2_; have BK680 := n3_; have HB := n4_; clear n0_ n1_ n2_ n3_ n4_; (try clear hb); (try clear hk); (try clear ho0); obtain ⟨hcz13_0, hcz13_1, hfz13_0, hfz13_1⟩ := by2 BK680.out) | ((with_reducible refine gate_callee (f := 34) rfl ?_); refine goesL_ (some 19) rfl rfl Try.func34 (by kernel_rfl) rfl #[.agg #[.slice Ao9 t674.length co9, .slice Ao11 t677.length co11]] rfl ga_ ?_; (with_reducible refine (spec_PlateEdges.calls k _ _ t674 _ _ t677 t684 _ ?side1 ?side2 ?side3 ?side4 A5.out).mono ?_); (case side1 => exact pC_ (Kd.R_reads' HO676.out).2.2); (case side2 => exact (Kd.R_reads' HO676.out).2.1); (case side3 => exact pC_ (Kd.N_reads' HO679.out).2.2); (case side4 => exact (Kd.N_reads' HO679.out).2.1); rintro e w14 ⟨v685, rfl, ho0, hb⟩; refine ⟨_, rfl, ?_⟩; have n0_ := A_ (Kd.R_below (pR_ HO676.out) hb); have n1_ := A_ (Kd.N_elder' (pN_ HO679.out) (Kd.R_base ho0) hb); have n2_ := A_ (Kd.R_elder' (pR_ HO683.out) (Kd.R_base ho0) hb); have n3_ := A_ (Kd.R_lower (Kd.R_new' ho0 (Kd.R_lt (pR_ HO683.out))) (below_size hB_)); have n4_ := bw_ BK680.out hb; have n5_ := sb_ hb; clear HO676; clear HO679; clear HO683; clear BK680; clear HB; have HO676 := n0_; have HO679 := n1_; have HO683 := n2_; have HO686 := n3_; have BK680 := n4_; have HB := n5_; clear n0_ n1_ n2_ n3_ n4_ n5_; (try clear hb); (try clear hk); (try clear ho0)))
  (try simp only [Act.put, Geo.sa_, Geo.sb_, Geo.sc_]); go_cut [29] (fun v29 wc => ∃ (kq : Nat) (x29_5 : Bool), v29 = .bool x29_5 ∧ Aside0 (laws_FnPlateEdges.j0 kq t681 t684 x29_5 t674 t677 = some r) ∧ Aside0 (kq ≤ k) ∧ Aside0 (Kd.R k35 35 wc w.heap.size (fun k_ => some k_ ≠ (v685 : Value).ownBlock) v682 t681) ∧ Aside0 (Kd.R k35 35 wc w.heap.size (fun k_ => some k_ ≠ (v682 : Value).ownBlock) v685 t684) ∧ Aside0 (Kd.R k25 25 wc w.heap.size (fun _ => True) (.slice Ao9 t674.length co9) t674) ∧ Aside0 (Kd.N (Kd.slice 25 k25) 23 wc w.heap.size (fun k_ => some k_ ≠ (v682 : Value).ownBlock ∧ some k_ ≠ (v685 : Value).ownBlock ∧ some k_ ≠ ((.slice Ao9 t674.length co9) : Value).ownBlock ∧ k_ ≠ gb680) (.slice Ao11 t677.length co11) t677) ∧ Aside0 (wc.heap[gb680]? = some (.cells #[(.slice Ao9 t674.length co9), (.slice Ao11 t677.length co11)] 50 (0, 0))) ∧ Aside0 (Below w.heap.size w wc))
  case first =>
   have H := HC6.out; clear HC6; by_cases c15 : (t681.length : Int) = (t684.length : Int)
   ·rw [if_pos c15] at H; have c15b0 : ((t681.length : Int) == (t684.length : Int)) = true := beq_iff_eq.mpr c15; have c15b1 : ((t681.length : Int) != (t684.length : Int)) = false := bne_eq_false_iff_eq.mpr c15; have c15b2 : (t681.length == t684.length) = true := by first | simpa using c15 | (simp at c15 ⊢; omega)
    clear c15; (first | rw [c15b0] | (simp only [i64_w, i32_w]; rw [c15b0]) | skip); have H' := A_ H; clear H; obtain ⟨Ao16, co16, eo16⟩ := Kd.R_slice HO683.out; subst eo16; obtain ⟨Ao17, co17, eo17⟩ := Kd.R_slice HO686.out; subst eo17; go_wp2
    go_meet
    case rel => exact ⟨_, (((t681.length : Int) == 0)), (by first | rfl | (simp; done) | (simp [*]; done)), H', ⟨by first | omega | exact Nat.le_refl _⟩, ⟨by (with_reducible repeat (first | apply Kd.R_alloc | apply Kd.R_drewN | apply Kd.R_drew)); exact Kd.R_mono HO683.out (fun _ hk => hk.2)⟩, ⟨by (with_reducible repeat (first | apply Kd.R_alloc | apply Kd.R_drewN | apply Kd.R_drew)); exact Kd.R_mono HO686.out (fun _ hk => hk.2)⟩, ⟨by (with_reducible repeat (first | apply Kd.R_alloc | apply Kd.R_drewN | apply Kd.R_drew)); exact HO676.out⟩, ⟨by (with_reducible repeat (first | apply Kd.N_alloc | apply Kd.N_drewN | apply Kd.N_drew)); exact Kd.N_mono HO679.out (fun _ hk => ⟨hk.1.2, ⟨hk.2, ⟨hk.1.1.1, hk.1.1.2⟩⟩⟩)⟩, ⟨by (with_reducible repeat (first | refine blk_drewN ?_ _ | refine blk_drew ?_ | refine blk_alloc ?_ _)); exact BK680.out⟩, ⟨hB_⟩⟩
   ·rw [if_neg c15] at H; have c15b0 : ((t681.length : Int) == (t684.length : Int)) = false := beq_eq_false_iff_ne.mpr c15; have c15b1 : ((t681.length : Int) != (t684.length : Int)) = true := bne_iff_ne.mpr c15; have c15b2 : (t681.length == t684.length) = false := by first | simpa using c15 | (simp at c15 ⊢; omega)
    (first | rw [c15b0] | (simp only [i64_w, i32_w]; rw [c15b0]) | skip); have H' := A_ H; clear H; obtain ⟨Ao18, co18, eo18⟩ := Kd.R_slice HO683.out; subst eo18; obtain ⟨Ao19, co19, eo19⟩ := Kd.R_slice HO686.out; subst eo19; go_wp2
    go_meet
    case rel => exact ⟨_, (true), (by first | rfl | (simp; done) | (simp [*]; done)), H', ⟨by first | omega | exact Nat.le_refl _⟩, ⟨by (with_reducible repeat (first | apply Kd.R_alloc | apply Kd.R_drewN | apply Kd.R_drew)); exact Kd.R_mono HO683.out (fun _ hk => hk.2)⟩, ⟨by (with_reducible repeat (first | apply Kd.R_alloc | apply Kd.R_drewN | apply Kd.R_drew)); exact Kd.R_mono HO686.out (fun _ hk => hk.2)⟩, ⟨by (with_reducible repeat (first | apply Kd.R_alloc | apply Kd.R_drewN | apply Kd.R_drew)); exact HO676.out⟩, ⟨by (with_reducible repeat (first | apply Kd.N_alloc | apply Kd.N_drewN | apply Kd.N_drew)); exact Kd.N_mono HO679.out (fun _ hk => ⟨hk.1.2, ⟨hk.2, ⟨hk.1.1.1, hk.1.1.2⟩⟩⟩)⟩, ⟨by (with_reducible repeat (first | refine blk_drewN ?_ _ | refine blk_drew ?_ | refine blk_alloc ?_ _)); exact BK680.out⟩, ⟨hB_⟩⟩
  case rest =>
   clear HC6; try clear c1
   try clear c2
   try clear c2b0
   try clear c2b1
   try clear p2
   try clear c3
   try clear c7
   try clear c15
   try clear c15b0
   try clear c15b1
   try clear c15b2
   try clear hcz10_0
   try clear hcz10_1
   try clear hcz13_0
   try clear hcz13_1
   try clear hfz10_0
   try clear hfz10_1
   try clear hfz13_0
   try clear hfz13_1
   obtain ⟨kq, x29_5, rfl, HA, HJ5, HO_4, HO_5, HO_681000, HO_681001, BK680, HB⟩ := hcut; cases kq with
   | zero => exact absurd HA.out (by simp [laws_FnPlateEdges.j0])
   | succ kj5 =>
    have H := HA.out; clear HA; simp only [laws_FnPlateEdges.j0] at H; by_cases c20 : x29_5 = true
    ·subst c20; have H1 : (some ((t681.length : Int) == (t684.length : Int))) = some r := by rw [if_pos rfl] at H; exact H
     clear H; have H := H1; clear H1; obtain rfl := Option.some.inj H; obtain ⟨Ao21, co21, eo21⟩ := Kd.R_slice HO_4.out; subst eo21; obtain ⟨Ao22, co22, eo22⟩ := Kd.R_slice HO_5.out; subst eo22; go_wp2
     go_ret
     exact ⟨by first | rfl | (simp [errW_none, errW_some] <;> rfl) | (simp [*, errW_none, errW_some] <;> rfl), hB_⟩
    ·replace c20 := Bool.eq_false_iff.mpr c20; subst c20; have H1 : ((impl_LoopEdges.f t674).bind fun t687 => (laws_FnPlateEdges.l0 kj5 t681 t687 (t687.length : Int) 0 t674 t677)) = some r := by rw [if_neg (show ¬ (false = true) by decide)] at H; exact H
     clear H; have H := H1; clear H1; replace H := Option.bind_eq_some_iff.mp H; obtain ⟨t687, A230, H⟩ := H; (try dsimp only at H); have A23 := A_ A230; clear A230; have H' := A_ H; clear H; obtain ⟨hcz24_0, hcz24_1, hfz24_0, hfz24_1⟩ := by2 BK680.out; go_wp2_with (first | ((with_reducible refine gate_callee (f := 18) rfl ?_); refine goesL_ (some 37) rfl rfl Try.func18 (by kernel_rfl) rfl #[.slice Ao9 t674.length co9] rfl ga_ ?_; (with_reducible refine (impl_LoopEdges.calls _ _ t674 t687 _ ?side1 ?side2 A23.out).mono ?_); (case side1 => exact pC_ (Kd.R_reads' HO_681000.out).2.2); (case side2 => exact (Kd.R_reads' HO_681000.out).2.1); rintro e w25 ⟨v688, rfl, ho0, hb⟩; refine ⟨_, rfl, ?_⟩; have n0_ := A_ (Kd.R_elder' (pR_ HO_4.out) (Kd.R_base ho0) hb); have n1_ := A_ (Kd.R_elder' (pR_ HO_5.out) (Kd.R_base ho0) hb); have n2_ := A_ (Kd.R_below (pR_ HO_681000.out) hb); have n3_ := A_ (Kd.N_elder' (pN_ HO_681001.out) (Kd.R_base ho0) hb); have n4_ := A_ (Kd.R_lower (Kd.R_new' (Kd.R_new' ho0 (Kd.R_lt (pR_ HO_4.out))) (Kd.R_lt (pR_ HO_5.out))) (below_size hB_)); have n5_ := bw_ BK680.out hb; have n6_ := sb_ hb; clear HO_4; clear HO_5; clear HO_681000; clear HO_681001; clear BK680; clear HB; have HO_4 := n0_; have HO_5 := n1_; have HO_681000 := n2_; have HO_681001 := n3_; have HO689 := n4_; have BK680 := n5_; have HB := n6_; clear n0_ n1_ n2_ n3_ n4_ n5_ n6_; (try clear hb); (try clear ho0); obtain ⟨Ao26, co26, eo26⟩ := Kd.R_slice HO689.out; subst eo26))
     go_loopg [6, 8] kj5 (fun kq v6 v8 w' => ∃ (x6_2 : List (S35)) (x8_2 : Int), v8 = .int .i64 x8_2 ∧ Aside0 (laws_FnPlateEdges.l0 kq t681 x6_2 (t687.length : Int) x8_2 t674 t677 = some r) ∧ Aside0 (kq ≤ kj5) ∧ Aside0 (Kd.R k35 35 w' w.heap.size (fun k_ => some k_ ≠ (v6 : Value).ownBlock) v682 t681) ∧ Aside0 (Kd.R k35 35 w' w.heap.size (fun k_ => some k_ ≠ (v682 : Value).ownBlock) v6 x6_2) ∧ Aside0 (Kd.R k25 25 w' w.heap.size (fun _ => True) (.slice Ao9 t674.length co9) t674) ∧ Aside0 (Kd.N (Kd.slice 25 k25) 23 w' w.heap.size (fun k_ => some k_ ≠ (v682 : Value).ownBlock ∧ some k_ ≠ (v6 : Value).ownBlock ∧ some k_ ≠ ((.slice Ao9 t674.length co9) : Value).ownBlock ∧ k_ ≠ gb680) (.slice Ao11 t677.length co11) t677) ∧ Aside0 (w'.heap[gb680]? = some (.cells #[(.slice Ao9 t674.length co9), (.slice Ao11 t677.length co11)] 50 (0, 0))) ∧ Aside0 (Below w.heap.size w w'))
     case atStart => exact ⟨(t687), (0), (by first | rfl | (simp; done) | (simp [*]; done)), H', ⟨Nat.le_refl _⟩, ⟨by (with_reducible repeat (first | apply Kd.R_alloc | apply Kd.R_drewN | apply Kd.R_drew)); exact Kd.R_mono HO_4.out (fun _ hk => hk.2)⟩, ⟨by (with_reducible repeat (first | apply Kd.R_alloc | apply Kd.R_drewN | apply Kd.R_drew)); exact Kd.R_mono HO689.out (fun _ hk => hk.1.2)⟩, ⟨by (with_reducible repeat (first | apply Kd.R_alloc | apply Kd.R_drewN | apply Kd.R_drew)); exact HO_681000.out⟩, ⟨by (with_reducible repeat (first | apply Kd.N_alloc | apply Kd.N_drewN | apply Kd.N_drew)); exact Kd.N_mono HO_681001.out (fun _ hk => ⟨hk.1.1, ⟨hk.2, ⟨hk.1.2.2.1, hk.1.2.2.2⟩⟩⟩)⟩, ⟨by (with_reducible repeat (first | refine blk_drewN ?_ _ | refine blk_drew ?_ | refine blk_alloc ?_ _)); exact BK680.out⟩, ⟨hB_⟩⟩
     case round =>
      clear H'; try clear c1
      try clear c2
      try clear c2b0
      try clear c2b1
      try clear p2
      try clear c3
      try clear c7
      try clear c15
      try clear c15b0
      try clear c15b1
      try clear c15b2
      try clear c18
      try clear c20
      try clear hcz10_0
      try clear hcz10_1
      try clear hcz13_0
      try clear hcz13_1
      try clear hcz24_0
      try clear hcz24_1
      try clear hfz10_0
      try clear hfz10_1
      try clear hfz13_0
      try clear hfz13_1
      try clear hfz24_0
      try clear hfz24_1
      try clear p2
      obtain ⟨x6_2, x8_2, rfl, HA, HK2, HO_4, HO_6, HO_681000, HO_681001, BK680, HB⟩ := hrel; cases gk with
      | zero => exact absurd HA.out (by simp [laws_FnPlateEdges.l0])
      | succ k2 =>
       have H := HA.out; clear HA; simp only [laws_FnPlateEdges.l0] at H; by_cases c27 : x8_2 < (t677.length : Int)
       ·rw [if_pos c27] at H; have c27b0 : decide (x8_2 < (t677.length : Int)) = true := decide_eq_true c27; clear c27; by_cases c28 : 0 ≤ x8_2
        ·rw [if_pos c28] at H; have c28b0 : decide (0 ≤ x8_2) = true := decide_eq_true c28; clear c28; replace H := Option.bind_eq_some_iff.mp H; obtain ⟨t691, A290, H⟩ := H; (try dsimp only at H); have A29 := A_ A290; clear A290; by_cases c30 : x6_2.length + t691.length < 4398046511104
         ·rw [if_pos c30] at H; have LMc30 := A_ c30; clear c30; obtain ⟨y694, hy694⟩ : ∃ y_ : List (S35), y_ = (x6_2 ++ t691) := ⟨_, rfl⟩; replace H : (laws_FnPlateEdges.l0 k2 t681 y694 (t687.length : Int) (wrap64 (x8_2 + 1)) t674 t677) = some r := by first | (rw [hy694]; with_reducible exact H) | (have H2_ := (Option.bind_some _ _).symm.trans H; rw [hy694]; with_reducible exact H2_) | (have H2_ := (Option.bind_some _ _).symm.trans H; with_reducible exact H2_) | with_reducible exact H | (rw [hy694]; exact H) | exact H
          have Ny694 := A_ hy694; clear hy694; have H' := A_ H; clear H; obtain ⟨hcz31_0, hcz31_1, hfz31_0, hfz31_1⟩ := by2 BK680.out; have p690 : 0 ≤ (x8_2 : Int) := of_decide_eq_true (by first | (with_reducible assumption) | assumption); have q690 : x8_2 < (t677.length : Int) := of_decide_eq_true (by first | (with_reducible assumption) | assumption); obtain ⟨ad690, A690_0, c690_0, e690, hx690_0, hl690_0, hi690_0⟩ := at_L4 (Kd.N_reads' HO_681001.out).2.2 x8_2 p690 q690; cases e690; obtain ⟨ce690, hce690, hMe690, hcc690⟩ := Kd.N_get HO_681001.out [] x8_2 p690 (by first | exact q690 | exact of_decide_eq_true (by first | (with_reducible assumption) | assumption) | (have e_ := (Kd.N_reads' HO_681001.out).1; omega)); obtain ⟨ua690_0, uc690_0, rfl, ul690_0, ge690_0⟩ := Kd.FK_slice_open hMe690; have hv690_0 := hcc690 0 _ rfl; rw [Nat.add_zero, show ((Kd.slice 25 k25)).sz = 1 from rfl, Nat.mul_one] at hv690_0; replace hv690_0 := Option.some.inj (hv690_0.symm.trans hx690_0); injection hv690_0 with hva_ hvn_ hvc_
          rw [hva_] at ge690_0; rw [hvc_] at ul690_0; have HL690_0 := A_ (show Kd.V k25 25 _ w.heap.size _ _ (rd_L4 t677 x8_2) from Kd.V_mk ul690_0 ge690_0); clear hva_ hvn_ hvc_ ge690_0 ul690_0; clear hcc690 hce690; have HR690_0 := A_ hi690_0; have HC690_0 := A_ hl690_0; clear hi690_0 hl690_0; replace p690 := eq_true p690; replace q690 := eq_true q690; go_wp2_with (first | ((with_reducible refine gate_callee (f := 18) rfl ?_); refine goesL_ (some 53) rfl rfl Try.func18 (by kernel_rfl) rfl #[.slice A690_0 (rd_L4 t677 x8_2).length c690_0] rfl ga_ ?_; (with_reducible refine (impl_LoopEdges.calls _ _ (rd_L4 t677 x8_2) t691 _ ?side1 ?side2 A29.out).mono ?_); (case side1 => repeat (first | exact (by repeat (first | (with_reducible exact HR690_0.out) | (with_reducible refine Kd.C_alloc ?_ _) | (with_reducible refine Kd.C_drewN ?_ _) | (with_reducible refine Kd.C_drew ?_) | exact HR690_0.out)) | (with_reducible refine Kd.C_alloc ?_ _) | (with_reducible refine Kd.C_drewN ?_ _) | (with_reducible refine Kd.C_drew ?_))); (case side2 => exact HC690_0.out); rintro e w32 ⟨v692, rfl, ho0, hb⟩; refine ⟨_, rfl, ?_⟩; have n0_ := A_ (Kd.R_elder' (pR_ HO_4.out) (Kd.R_base ho0) hb); have n1_ := A_ (Kd.R_elder' (pR_ HO_6.out) (Kd.R_base ho0) hb); have n2_ := A_ (Kd.R_below (pR_ HO_681000.out) hb); have n3_ := A_ (Kd.N_elder' (pN_ HO_681001.out) (Kd.R_base ho0) hb); have n4_ := A_ (Kd.V_elder' (by (with_reducible repeat (first | apply Kd.V_alloc | apply Kd.V_drewN | apply Kd.V_drew)); exact HL690_0.out) (Kd.R_base ho0) hb); have n5_ := A_ (Kd.R_lower (Kd.R_new' (Kd.R_new' ho0 (Kd.R_lt (pR_ HO_4.out))) (Kd.R_lt (pR_ HO_6.out))) (below_size hB_)); have n6_ := bw_ BK680.out hb; have n7_ := A_ (Kd.C_below (by repeat (first | (with_reducible exact HR690_0.out) | (with_reducible refine Kd.C_alloc ?_ _) | (with_reducible refine Kd.C_drewN ?_ _) | (with_reducible refine Kd.C_drew ?_) | exact HR690_0.out)) hb); have n8_ := sb_ hb; clear HO_4; clear HO_6; clear HO_681000; clear HO_681001; clear HL690_0; clear BK680; clear HR690_0; clear HB; have HO_4 := n0_; have HO_6 := n1_; have HO_681000 := n2_; have HO_681001 := n3_; have HL690_0 := n4_; have HO693 := n5_; have BK680 := n6_; have HR690_0 := n7_; have HB := n8_; clear n0_ n1_ n2_ n3_ n4_ n5_ n6_ n7_ n8_; (try clear hb); (try clear hk); (try clear ho0); obtain ⟨Ao34, co34, eo34⟩ := Kd.R_slice HO693.out; subst eo34) | ((with_reducible refine gate_builtin (b := .append) (xs := #[.tmp 47, .tmp 53]) rfl ?_); at_builtin; refine Kd.R_append_rows k35 (w0 := w) w.heap.size rfl (.tmp 47) (.tmp 53) 31 35 (.agg #[(.int .i64 0), (.int .i64 0), (.int .i64 0), (.int .i64 0)]) 32 rfl Try.underlying31 info35 rfl (by decide) (by omega) u6 x6_2 t691 _ _ _ (fun k_ => some k_ ≠ (v682 : Value).ownBlock ∧ some k_ ≠ (.slice Ao34 t691.length co34 : Value).ownBlock) (fun _ => False) rfl rfl ?aO ?aR (fun _ _ h => h) (fun _ h => h.elim) ?aF ?aB ?aS ?aL ?_; (case aR => repeat (first | exact (Kd.R_reads' HO693.out).2.2 | (with_reducible refine Kd.C_alloc ?_ _) | (with_reducible refine Kd.C_drewN ?_ _) | (with_reducible refine Kd.C_drew ?_))); (case aB => exact hB_); (case aF => exact (fun k_ hk => ⟨Kd.fresh' (Kd.R_lt (pR_ HO_4.out)) k_ hk, Kd.fresh' (Kd.R_lt (pR_ HO693.out)) k_ hk⟩)); (case aO => exact (pR_ HO_6.out)); (case aS => exact (below_size hB_)); (case aL => have := LMc30.out; omega); intro v695 w33 ho hb hg hat; rw [← Ny694.out] at ho; have n0_ := A_ (Kd.R_after (ok := (fun k_ => some k_ ≠ (.slice Ao34 t691.length co34 : Value).ownBlock)) (by (with_reducible repeat (first | apply Kd.R_alloc | apply Kd.R_drewN | apply Kd.R_drew)); exact Kd.R_mono HO_4.out (fun _ hk => ⟨hk.2, hk.1⟩)) hg hat); have n1_ := A_ (Kd.R_over' (pR_ HO_681000.out) (Kd.R_typed (pR_ HO_6.out)) (by decide) hg); have n2_ := A_ (Kd.N_afterv (ok := (fun k_ => some k_ ≠ (v682 : Value).ownBlock ∧ some k_ ≠ (.slice Ao9 t674.length co9 : Value).ownBlock ∧ some k_ ≠ (.slice Ao34 t691.length co34 : Value).ownBlock ∧ k_ ≠ gb680)) (by (with_reducible repeat (first | apply Kd.N_alloc | apply Kd.N_drewN | apply Kd.N_drew)); exact Kd.N_mono HO_681001.out (fun _ hk => ⟨⟨hk.1.1, ⟨hk.1.2.2.1, ⟨hk.2, hk.1.2.2.2⟩⟩⟩, hk.1.2.1⟩)) hg hat); have n3_ := A_ (blk_grown (g := gb680) (o := .cells #[.slice Ao9 t674.length co9, .slice (some ad690) t677.length co11] 50 (0, 0)) pb_ hg (Kd.R_ne HO_6.out BK680.out (by decide))); have n4_ := A_ (Kd.V_afterv (ok := (fun k_ => some k_ ≠ (v682 : Value).ownBlock ∧ some k_ ≠ (.slice Ao9 t674.length co9 : Value).ownBlock ∧ some k_ ≠ (.slice (some ad690) t677.length co11 : Value).ownBlock ∧ some k_ ≠ (.slice Ao34 t691.length co34 : Value).ownBlock ∧ k_ ≠ gb680)) (by (with_reducible repeat (first | apply Kd.V_alloc | apply Kd.V_drewN | apply Kd.V_drew)); exact Kd.V_mono HL690_0.out (fun _ hk => ⟨⟨hk.1.1.1, ⟨hk.1.1.2.2.1, ⟨hk.1.2, ⟨hk.2, hk.1.1.2.2.2⟩⟩⟩⟩, hk.1.1.2.1⟩)) hg hat); have n5_ := A_ (Kd.R_after (ok := (fun k_ => some k_ ≠ (v682 : Value).ownBlock)) (by (with_reducible repeat (first | apply Kd.R_alloc | apply Kd.R_drewN | apply Kd.R_drew)); exact Kd.R_mono HO693.out (fun _ hk => ⟨hk.1.2, hk.2⟩)) hg hat); have n6_ := A_ (hb); have n7_ := A_ (ho); clear HO_4; clear HO_681000; clear HO_681001; clear BK680; clear HL690_0; clear HO693; clear HB; clear HO_6; have HO_4 := n0_; have HO_681000 := n1_; have HO_681001 := n2_; have BK680 := n3_; have HL690_0 := n4_; have HO693 := n5_; have HB := n6_; have HO696 := n7_; clear n0_ n1_ n2_ n3_ n4_ n5_ n6_ n7_; clear ho hb hg hat))
          go_roundg k2
          case measure => have := HJ5.out; have := HK2.out; omega
          case rel => exact ⟨(y694), (wrap64 (x8_2 + 1)), (by first | rfl | (simp; done) | (simp [*]; done)), H', ⟨by have := HJ5.out; have := HK2.out; omega⟩, ⟨by (with_reducible repeat (first | apply Kd.R_alloc | apply Kd.R_drewN | apply Kd.R_drew)); exact Kd.R_mono HO_4.out (fun _ hk => hk.2)⟩, ⟨by (with_reducible repeat (first | apply Kd.R_alloc | apply Kd.R_drewN | apply Kd.R_drew)); exact Kd.R_mono HO696.out (fun _ hk => hk.1)⟩, ⟨by (with_reducible repeat (first | apply Kd.R_alloc | apply Kd.R_drewN | apply Kd.R_drew)); exact HO_681000.out⟩, ⟨by (with_reducible repeat (first | apply Kd.N_alloc | apply Kd.N_drewN | apply Kd.N_drew)); exact Kd.N_mono HO_681001.out (fun _ hk => ⟨hk.1.1, ⟨hk.2, ⟨hk.1.2.1, hk.1.2.2.2⟩⟩⟩)⟩, ⟨by (with_reducible repeat (first | refine blk_drewN ?_ _ | refine blk_drew ?_ | refine blk_alloc ?_ _)); exact BK680.out⟩, ⟨hB_⟩⟩
         ·rw [if_neg c30] at H; exact absurd H (by simp)
        ·rw [if_neg c28] at H; exact absurd H (by simp)
       ·rw [if_neg c27] at H; have c27b0 : decide (x8_2 < (t677.length : Int)) = false := decide_eq_false c27; clear c27; by_cases c35 : (x6_2.length : Int) = (t681.length : Int)
        ·rw [if_pos c35] at H; have c35b0 : ((x6_2.length : Int) == (t681.length : Int)) = true := beq_iff_eq.mpr c35; have c35b1 : ((x6_2.length : Int) != (t681.length : Int)) = false := bne_eq_false_iff_eq.mpr c35; have c35b2 : (x6_2.length == t681.length) = true := by first | simpa using c35 | (simp at c35 ⊢; omega)
         clear c35; have H' := A_ H; clear H; obtain ⟨hcz36_0, hcz36_1, hfz36_0, hfz36_1⟩ := by2 BK680.out; obtain ⟨Ao37, co37, eo37⟩ := Kd.R_slice HO_6.out; subst eo37; obtain ⟨Ao38, co38, eo38⟩ := Kd.R_slice HO_4.out; subst eo38; go_wp2
         go_loopg [9] k2 (fun kq v9 w' => ∃ (x9_3 : Int), v9 = .int .i64 x9_3 ∧ Aside0 (laws_FnPlateEdges.l1 kq t681 x6_2 (t687.length : Int) x9_3 = some r) ∧ Aside0 (kq ≤ k2) ∧ Aside0 (Kd.R k35 35 w' w.heap.size (fun k_ => some k_ ≠ ((.slice Ao37 x6_2.length co37) : Value).ownBlock) (.slice Ao38 t681.length co38) t681) ∧ Aside0 (Kd.R k35 35 w' w.heap.size (fun k_ => some k_ ≠ ((.slice Ao38 t681.length co38) : Value).ownBlock) (.slice Ao37 x6_2.length co37) x6_2) ∧ Aside0 (Kd.R k25 25 w' w.heap.size (fun _ => True) (.slice Ao9 t674.length co9) t674) ∧ Aside0 (Kd.N (Kd.slice 25 k25) 23 w' w.heap.size (fun k_ => some k_ ≠ ((.slice Ao38 t681.length co38) : Value).ownBlock ∧ some k_ ≠ ((.slice Ao37 x6_2.length co37) : Value).ownBlock ∧ some k_ ≠ ((.slice Ao9 t674.length co9) : Value).ownBlock ∧ k_ ≠ gb680) (.slice Ao11 t677.length co11) t677) ∧ Aside0 (w'.heap[gb680]? = some (.cells #[(.slice Ao9 t674.length co9), (.slice Ao11 t677.length co11)] 50 (0, 0))) ∧ Aside0 (Below w.heap.size w w'))
         case atStart => exact ⟨(0), (by first | rfl | (simp; done) | (simp [*]; done)), H', ⟨Nat.le_refl _⟩, ⟨by (with_reducible repeat (first | apply Kd.R_alloc | apply Kd.R_drewN | apply Kd.R_drew)); exact HO_4.out⟩, ⟨by (with_reducible repeat (first | apply Kd.R_alloc | apply Kd.R_drewN | apply Kd.R_drew)); exact HO_6.out⟩, ⟨by (with_reducible repeat (first | apply Kd.R_alloc | apply Kd.R_drewN | apply Kd.R_drew)); exact HO_681000.out⟩, ⟨by (with_reducible repeat (first | apply Kd.N_alloc | apply Kd.N_drewN | apply Kd.N_drew)); exact HO_681001.out⟩, ⟨by (with_reducible repeat (first | refine blk_drewN ?_ _ | refine blk_drew ?_ | refine blk_alloc ?_ _)); exact BK680.out⟩, ⟨hB_⟩⟩
         case round =>
          clear H'; try clear c1
          try clear c2
          try clear c2b0
          try clear c2b1
          try clear p2
          try clear c3
          try clear c6
          try clear p6
          try clear q6
          try clear hx6
          try clear c7
          try clear c15
          try clear c15b0
          try clear c15b1
          try clear c15b2
          try clear c18
          try clear c20
          try clear c27
          try clear c27b0
          try clear c28
          try clear c28b0
          try clear c30
          try clear c32
          try clear c33
          try clear c34
          try clear c35
          try clear c35b0
          try clear c35b1
          try clear c35b2
          try clear hcz10_0
          try clear hcz10_1
          try clear hcz13_0
          try clear hcz13_1
          try clear hcz24_0
          try clear hcz24_1
          try clear hcz31_0
          try clear hcz31_1
          try clear hcz36_0
          try clear hcz36_1
          try clear hfz10_0
          try clear hfz10_1
          try clear hfz13_0
          try clear hfz13_1
          try clear hfz24_0
          try clear hfz24_1
          try clear hfz31_0
          try clear hfz31_1
          try clear hfz36_0
          try clear hfz36_1
          try clear hx690_0
          try clear p2
          try clear p690
          try clear q690
          obtain ⟨x9_3, rfl, HA, HK3, HO_4, HO_6, HO_681000, HO_681001, BK680, HB⟩ := hrel; cases gk with
          | zero => exact absurd HA.out (by simp [laws_FnPlateEdges.l1])
          | succ k3 =>
           have H := HA.out; clear HA; simp only [laws_FnPlateEdges.l1] at H; by_cases c39 : x9_3 < (t681.length : Int)
           ·rw [if_pos c39] at H; have c39b0 : decide (x9_3 < (t681.length : Int)) = true := decide_eq_true c39; clear c39; by_cases c40 : 0 ≤ x9_3
            ·rw [if_pos c40] at H; have c40b0 : decide (0 ≤ x9_3) = true := decide_eq_true c40; clear c40; by_cases c41 : x9_3 < (x6_2.length : Int)
             ·rw [if_pos c41] at H; have c41b0 : decide (x9_3 < (x6_2.length : Int)) = true := decide_eq_true c41; clear c41; by_cases c42 : ((!(((rd_T35 t681 x9_3).f0.f0) == ((rd_T35 x6_2 x9_3).f0.f0)) || (!(((rd_T35 t681 x9_3).f0.f1) == ((rd_T35 x6_2 x9_3).f0.f1)))) || ((!(((rd_T35 t681 x9_3).f1.f0) == ((rd_T35 x6_2 x9_3).f1.f0)) || (!(((rd_T35 t681 x9_3).f1.f1) == ((rd_T35 x6_2 x9_3).f1.f1)))))) = true
              ·rw [if_pos c42] at H; have c42b0 : ((!(((rd_T35 t681 x9_3).f0.f0) == ((rd_T35 x6_2 x9_3).f0.f0)) || (!(((rd_T35 t681 x9_3).f0.f1) == ((rd_T35 x6_2 x9_3).f0.f1)))) || ((!(((rd_T35 t681 x9_3).f1.f0) == ((rd_T35 x6_2 x9_3).f1.f0)) || (!(((rd_T35 t681 x9_3).f1.f1) == ((rd_T35 x6_2 x9_3).f1.f1)))))) = true := c42; clear c42; obtain rfl := Option.some.inj H; try go_wp2
               have n0_ := A_ (Kd.R_drew HO_4.out); have n1_ := A_ (Kd.R_drew HO_6.out); have n2_ := A_ (Kd.R_drew HO_681000.out); have n3_ := A_ (Kd.N_drew HO_681001.out); have n4_ := A_ (blk_drew BK680.out); have n5_ := A_ (below_drew1 HB.out); clear HO_4 HO_6 HO_681000 HO_681001 BK680 HB; revert n0_ n1_ n2_ n3_ n4_ n5_; intro HO_4 HO_6 HO_681000 HO_681001 BK680 HB; have p697 : 0 ≤ (x9_3 : Int) := of_decide_eq_true (by first | (with_reducible assumption) | assumption); have q697 : x9_3 < (t681.length : Int) := of_decide_eq_true (by first | (with_reducible assumption) | assumption); obtain ⟨ad697, e697, hx697_0, hx697_1, hx697_2, hx697_3⟩ := at_T35 (Kd.R_reads' HO_4.out).2.2 x9_3 p697 q697; cases e697; replace p697 := eq_true p697; replace q697 := eq_true q697; have p698 : 0 ≤ (x9_3 : Int) := of_decide_eq_true (by first | (with_reducible assumption) | assumption); have q698 : x9_3 < (x6_2.length : Int) := of_decide_eq_true (by first | (with_reducible assumption) | assumption); obtain ⟨ad698, e698, hx698_0, hx698_1, hx698_2, hx698_3⟩ := at_T35 (Kd.R_reads' HO_6.out).2.2 x9_3 p698 q698; cases e698; replace p698 := eq_true p698; replace q698 := eq_true q698; refine start_ (n := 9) (S := fun w' => w'.cell? (ad697.add ((x9_3).toNat * 4)) = some (.int .i64 ((rd_T35 t681 x9_3).f0.f0)) ∧ w'.cell? ⟨(ad697.add ((x9_3).toNat * 4)).block, (ad697.add ((x9_3).toNat * 4)).off + 1, none⟩ = some (.int .i64 ((rd_T35 t681 x9_3).f0.f1)) ∧ w'.cell? ⟨(ad697.add ((x9_3).toNat * 4)).block, (ad697.add ((x9_3).toNat * 4)).off + 2, none⟩ = some (.int .i64 ((rd_T35 t681 x9_3).f1.f0)) ∧ w'.cell? ⟨(ad697.add ((x9_3).toNat * 4)).block, (ad697.add ((x9_3).toNat * 4)).off + 3, none⟩ = some (.int .i64 ((rd_T35 t681 x9_3).f1.f1)) ∧ w'.cell? (ad698.add ((x9_3).toNat * 4)) = some (.int .i64 ((rd_T35 x6_2 x9_3).f0.f0)) ∧ w'.cell? ⟨(ad698.add ((x9_3).toNat * 4)).block, (ad698.add ((x9_3).toNat * 4)).off + 1, none⟩ = some (.int .i64 ((rd_T35 x6_2 x9_3).f0.f1)) ∧ w'.cell? ⟨(ad698.add ((x9_3).toNat * 4)).block, (ad698.add ((x9_3).toNat * 4)).off + 2, none⟩ = some (.int .i64 ((rd_T35 x6_2 x9_3).f1.f0)) ∧ w'.cell? ⟨(ad698.add ((x9_3).toNat * 4)).block, (ad698.add ((x9_3).toNat * 4)).off + 3, none⟩ = some (.int .i64 ((rd_T35 x6_2 x9_3).f1.f1))) (ds := []) #[false, false, false, false, false, false, false, false, false] (by kernel_rfl) rfl rfl ⟨hx697_0, hx697_1, hx697_2, hx697_3, hx698_0, hx698_1, hx698_2, hx698_3⟩ (fun hHeld => ?_); refine with_tabW laws_FnPlateEdges.tab19 laws_FnPlateEdges.bits19 (fun HT_ HW_ => ?_)
               generalize wr.drew = w43 at HO_4 HO_6 HO_681000 HO_681001 BK680 HB hx697_0 hx697_1 hx697_2 hx697_3 hx698_0 hx698_1 hx698_2 hx698_3 hHeld ⊢
               refine pu_ HT_.out 0 66 {} ?_; refine pu_ HT_.out 1 67 {} ?_; refine pu_ HT_.out 2 68 {} ?_; refine pu_ HT_.out 4 70 {} ?_; refine pu_ HT_.out 5 71 {} ?_; refine pu_ HT_.out 6 72 {} ?_; refine tk_ HT_.out HW_.out 3 69 hHeld {} ?_; refine tk_ HT_.out HW_.out 7 73 hHeld {} ?_; refine pu_ HT_.out 8 74 {} ?_
               refine done_ (done_of HT_.out (by kernel_rfl)) ?_; try go_wp2
               go_ret
               exact ⟨by first | rfl | (simp [errW_none, errW_some] <;> rfl) | (simp [*, errW_none, errW_some] <;> rfl), hB_⟩
              ·rw [if_neg c42] at H; have c42b0 : ((!(((rd_T35 t681 x9_3).f0.f0) == ((rd_T35 x6_2 x9_3).f0.f0)) || (!(((rd_T35 t681 x9_3).f0.f1) == ((rd_T35 x6_2 x9_3).f0.f1)))) || ((!(((rd_T35 t681 x9_3).f1.f0) == ((rd_T35 x6_2 x9_3).f1.f0)) || (!(((rd_T35 t681 x9_3).f1.f1) == ((rd_T35 x6_2 x9_3).f1.f1)))))) = false := by simpa using c42
               clear c42; have H' := A_ H; clear H; try go_wp2
               have n0_ := A_ (Kd.R_drew HO_4.out); have n1_ := A_ (Kd.R_drew HO_6.out); have n2_ := A_ (Kd.R_drew HO_681000.out); have n3_ := A_ (Kd.N_drew HO_681001.out); have n4_ := A_ (blk_drew BK680.out); have n5_ := A_ (below_drew1 HB.out); clear HO_4 HO_6 HO_681000 HO_681001 BK680 HB; revert n0_ n1_ n2_ n3_ n4_ n5_; intro HO_4 HO_6 HO_681000 HO_681001 BK680 HB; have p697 : 0 ≤ (x9_3 : Int) := of_decide_eq_true (by first | (with_reducible assumption) | assumption); have q697 : x9_3 < (t681.length : Int) := of_decide_eq_true (by first | (with_reducible assumption) | assumption); obtain ⟨ad697, e697, hx697_0, hx697_1, hx697_2, hx697_3⟩ := at_T35 (Kd.R_reads' HO_4.out).2.2 x9_3 p697 q697; cases e697; replace p697 := eq_true p697; replace q697 := eq_true q697; have p698 : 0 ≤ (x9_3 : Int) := of_decide_eq_true (by first | (with_reducible assumption) | assumption); have q698 : x9_3 < (x6_2.length : Int) := of_decide_eq_true (by first | (with_reducible assumption) | assumption); obtain ⟨ad698, e698, hx698_0, hx698_1, hx698_2, hx698_3⟩ := at_T35 (Kd.R_reads' HO_6.out).2.2 x9_3 p698 q698; cases e698; replace p698 := eq_true p698; replace q698 := eq_true q698; refine start_ (n := 9) (S := fun w' => w'.cell? (ad697.add ((x9_3).toNat * 4)) = some (.int .i64 ((rd_T35 t681 x9_3).f0.f0)) ∧ w'.cell? ⟨(ad697.add ((x9_3).toNat * 4)).block, (ad697.add ((x9_3).toNat * 4)).off + 1, none⟩ = some (.int .i64 ((rd_T35 t681 x9_3).f0.f1)) ∧ w'.cell? ⟨(ad697.add ((x9_3).toNat * 4)).block, (ad697.add ((x9_3).toNat * 4)).off + 2, none⟩ = some (.int .i64 ((rd_T35 t681 x9_3).f1.f0)) ∧ w'.cell? ⟨(ad697.add ((x9_3).toNat * 4)).block, (ad697.add ((x9_3).toNat * 4)).off + 3, none⟩ = some (.int .i64 ((rd_T35 t681 x9_3).f1.f1)) ∧ w'.cell? (ad698.add ((x9_3).toNat * 4)) = some (.int .i64 ((rd_T35 x6_2 x9_3).f0.f0)) ∧ w'.cell? ⟨(ad698.add ((x9_3).toNat * 4)).block, (ad698.add ((x9_3).toNat * 4)).off + 1, none⟩ = some (.int .i64 ((rd_T35 x6_2 x9_3).f0.f1)) ∧ w'.cell? ⟨(ad698.add ((x9_3).toNat * 4)).block, (ad698.add ((x9_3).toNat * 4)).off + 2, none⟩ = some (.int .i64 ((rd_T35 x6_2 x9_3).f1.f0)) ∧ w'.cell? ⟨(ad698.add ((x9_3).toNat * 4)).block, (ad698.add ((x9_3).toNat * 4)).off + 3, none⟩ = some (.int .i64 ((rd_T35 x6_2 x9_3).f1.f1))) (ds := []) #[false, false, false, false, false, false, false, false, false] (by kernel_rfl) rfl rfl ⟨hx697_0, hx697_1, hx697_2, hx697_3, hx698_0, hx698_1, hx698_2, hx698_3⟩ (fun hHeld => ?_); refine with_tabW laws_FnPlateEdges.tab19 laws_FnPlateEdges.bits19 (fun HT_ HW_ => ?_)
               generalize wr.drew = w44 at HO_4 HO_6 HO_681000 HO_681001 BK680 HB hx697_0 hx697_1 hx697_2 hx697_3 hx698_0 hx698_1 hx698_2 hx698_3 hHeld ⊢
               refine pu_ HT_.out 0 66 {} ?_; refine pu_ HT_.out 1 67 {} ?_; refine pu_ HT_.out 2 68 {} ?_; refine pu_ HT_.out 4 70 {} ?_; refine pu_ HT_.out 5 71 {} ?_; refine pu_ HT_.out 6 72 {} ?_; refine tk_ HT_.out HW_.out 3 69 hHeld {} ?_; refine tk_ HT_.out HW_.out 7 73 hHeld {} ?_; refine pu_ HT_.out 8 74 {} ?_
               refine done_ (done_of HT_.out (by kernel_rfl)) ?_; try go_wp2
               go_loopg [10] k3 (fun kq v10 w' => ∃ (x10_4 : Int), v10 = .int .i64 x10_4 ∧ Aside0 (laws_FnPlateEdges.l2 kq t681 x6_2 (t687.length : Int) x9_3 x10_4 = some r) ∧ Aside0 (kq ≤ k3) ∧ Aside0 (Kd.R k35 35 w' w.heap.size (fun k_ => some k_ ≠ ((.slice (some ad698) x6_2.length co37) : Value).ownBlock) (.slice (some ad697) t681.length co38) t681) ∧ Aside0 (Kd.R k35 35 w' w.heap.size (fun k_ => some k_ ≠ ((.slice (some ad697) t681.length co38) : Value).ownBlock) (.slice (some ad698) x6_2.length co37) x6_2) ∧ Aside0 (Kd.R k25 25 w' w.heap.size (fun _ => True) (.slice Ao9 t674.length co9) t674) ∧ Aside0 (Kd.N (Kd.slice 25 k25) 23 w' w.heap.size (fun k_ => some k_ ≠ ((.slice (some ad697) t681.length co38) : Value).ownBlock ∧ some k_ ≠ ((.slice (some ad698) x6_2.length co37) : Value).ownBlock ∧ some k_ ≠ ((.slice Ao9 t674.length co9) : Value).ownBlock ∧ k_ ≠ gb680) (.slice Ao11 t677.length co11) t677) ∧ Aside0 (w'.heap[gb680]? = some (.cells #[(.slice Ao9 t674.length co9), (.slice Ao11 t677.length co11)] 50 (0, 0))) ∧ Aside0 (Below w.heap.size w w'))
               case atStart => exact ⟨(0), (by first | rfl | (simp; done) | (simp [*]; done)), H', ⟨Nat.le_refl _⟩, ⟨by (with_reducible repeat (first | apply Kd.R_alloc | apply Kd.R_drewN | apply Kd.R_drew)); exact HO_4.out⟩, ⟨by (with_reducible repeat (first | apply Kd.R_alloc | apply Kd.R_drewN | apply Kd.R_drew)); exact HO_6.out⟩, ⟨by (with_reducible repeat (first | apply Kd.R_alloc | apply Kd.R_drewN | apply Kd.R_drew)); exact HO_681000.out⟩, ⟨by (with_reducible repeat (first | apply Kd.N_alloc | apply Kd.N_drewN | apply Kd.N_drew)); exact HO_681001.out⟩, ⟨by (with_reducible repeat (first | refine blk_drewN ?_ _ | refine blk_drew ?_ | refine blk_alloc ?_ _)); exact BK680.out⟩, ⟨hB_⟩⟩
               case round =>
                clear H'; try clear c1
                try clear c2
                try clear c2b0
                try clear c2b1
                try clear p2
                try clear c3
                try clear c4
                try clear c6
                try clear p6
                try clear q6
                try clear hx6
                try clear c7
                try clear c15
                try clear c15b0
                try clear c15b1
                try clear c15b2
                try clear c18
                try clear c20
                try clear c27
                try clear c27b0
                try clear c28
                try clear c28b0
                try clear c30
                try clear c32
                try clear c33
                try clear c34
                try clear c35
                try clear c35b0
                try clear c35b1
                try clear c35b2
                try clear c39
                try clear c39b0
                try clear c40
                try clear c40b0
                try clear c41
                try clear c41b0
                try clear c42
                try clear c42b0
                try clear hcz10_0
                try clear hcz10_1
                try clear hcz13_0
                try clear hcz13_1
                try clear hcz24_0
                try clear hcz24_1
                try clear hcz31_0
                try clear hcz31_1
                try clear hcz36_0
                try clear hcz36_1
                try clear hfz10_0
                try clear hfz10_1
                try clear hfz13_0
                try clear hfz13_1
                try clear hfz24_0
                try clear hfz24_1
                try clear hfz31_0
                try clear hfz31_1
                try clear hfz36_0
                try clear hfz36_1
                try clear hx690_0
                try clear hx697_0
                try clear hx697_1
                try clear hx697_2
                try clear hx697_3
                try clear hx698_0
                try clear hx698_1
                try clear hx698_2
                try clear hx698_3
                try clear p2
                try clear p6
                try clear p690
                try clear p697
                try clear p698
                try clear q6
                try clear q690
                try clear q697
                try clear q698
                obtain ⟨x10_4, rfl, HA, HK4, HO_4, HO_6, HO_681000, HO_681001, BK680, HB⟩ := hrel; cases gk with
                | zero => exact absurd HA.out (by simp [laws_FnPlateEdges.l2])
                | succ k4 =>
                 have H := HA.out; clear HA; simp only [laws_FnPlateEdges.l2] at H; by_cases c45 : x10_4 < (t687.length : Int)
                 ·rw [if_pos c45] at H; have c45b0 : decide (x10_4 < (t687.length : Int)) = true := decide_eq_true c45; clear c45; by_cases c46 : x9_3 ≥ (t687.length : Int)
                  ·rw [if_pos c46] at H; have c46b0 : decide ((t687.length : Int) ≤ x9_3) = true := decide_eq_true c46; clear c46; by_cases c47 : 0 ≤ x9_3
                   ·rw [if_pos c47] at H; have c47b0 : decide (0 ≤ x9_3) = true := decide_eq_true c47; clear c47; by_cases c48 : x9_3 < (t681.length : Int)
                    ·rw [if_pos c48] at H; have c48b0 : decide (x9_3 < (t681.length : Int)) = true := decide_eq_true c48; clear c48; by_cases c49 : 0 ≤ x10_4
                     ·rw [if_pos c49] at H; have c49b0 : decide (0 ≤ x10_4) = true := decide_eq_true c49; clear c49; by_cases c50 : x10_4 < (t681.length : Int)
                      ·rw [if_pos c50] at H; have c50b0 : decide (x10_4 < (t681.length : Int)) = true := decide_eq_true c50; clear c50; replace H := Option.bind_eq_some_iff.mp H; obtain ⟨t701, A510, H⟩ := H; (try dsimp only at H); have A51 := A_ A510; clear A510; by_cases c52 : t701 = true
                       ·subst c52; have H1 : (some false) = some r := by rw [if_pos rfl] at H; exact H
                        clear H; have H := H1; clear H1; obtain rfl := Option.some.inj H; try go_wp2
                        have n0_ := A_ (Kd.R_drew HO_4.out); have n1_ := A_ (Kd.R_drew HO_6.out); have n2_ := A_ (Kd.R_drew HO_681000.out); have n3_ := A_ (Kd.N_drew HO_681001.out); have n4_ := A_ (blk_drew BK680.out); have n5_ := A_ (below_drew1 HB.out); clear HO_4 HO_6 HO_681000 HO_681001 BK680 HB; revert n0_ n1_ n2_ n3_ n4_ n5_; intro HO_4 HO_6 HO_681000 HO_681001 BK680 HB; have p699 : 0 ≤ (x9_3 : Int) := of_decide_eq_true (by first | (with_reducible assumption) | assumption); have q699 : x9_3 < (t681.length : Int) := of_decide_eq_true (by first | (with_reducible assumption) | assumption); obtain ⟨ad699, e699, hx699_0, hx699_1, hx699_2, hx699_3⟩ := at_T35 (Kd.R_reads' HO_4.out).2.2 x9_3 p699 q699; obtain rfl : ad697 = ad699 := (by injection e699); replace p699 := eq_true p699; replace q699 := eq_true q699; have p700 : 0 ≤ (x10_4 : Int) := of_decide_eq_true (by first | (with_reducible assumption) | assumption); have q700 : x10_4 < (t681.length : Int) := of_decide_eq_true (by first | (with_reducible assumption) | assumption); obtain ⟨ad700, e700, hx700_0, hx700_1, hx700_2, hx700_3⟩ := at_T35 (Kd.R_reads' HO_4.out).2.2 x10_4 p700 q700; obtain rfl : ad697 = ad700 := (by injection e700); replace p700 := eq_true p700; replace q700 := eq_true q700; refine start_ (n := 14) (S := fun w' => w'.cell? (ad697.add ((x9_3).toNat * 4)) = some (.int .i64 ((rd_T35 t681 x9_3).f0.f0)) ∧ w'.cell? ⟨(ad697.add ((x9_3).toNat * 4)).block, (ad697.add ((x9_3).toNat * 4)).off + 1, none⟩ = some (.int .i64 ((rd_T35 t681 x9_3).f0.f1)) ∧ w'.cell? ⟨(ad697.add ((x9_3).toNat * 4)).block, (ad697.add ((x9_3).toNat * 4)).off + 2, none⟩ = some (.int .i64 ((rd_T35 t681 x9_3).f1.f0)) ∧ w'.cell? ⟨(ad697.add ((x9_3).toNat * 4)).block, (ad697.add ((x9_3).toNat * 4)).off + 3, none⟩ = some (.int .i64 ((rd_T35 t681 x9_3).f1.f1)) ∧ w'.cell? (ad697.add ((x10_4).toNat * 4)) = some (.int .i64 ((rd_T35 t681 x10_4).f0.f0)) ∧ w'.cell? ⟨(ad697.add ((x10_4).toNat * 4)).block, (ad697.add ((x10_4).toNat * 4)).off + 1, none⟩ = some (.int .i64 ((rd_T35 t681 x10_4).f0.f1)) ∧ w'.cell? ⟨(ad697.add ((x10_4).toNat * 4)).block, (ad697.add ((x10_4).toNat * 4)).off + 2, none⟩ = some (.int .i64 ((rd_T35 t681 x10_4).f1.f0)) ∧ w'.cell? ⟨(ad697.add ((x10_4).toNat * 4)).block, (ad697.add ((x10_4).toNat * 4)).off + 3, none⟩ = some (.int .i64 ((rd_T35 t681 x10_4).f1.f1))) (ds := []) #[false, false, false, false, false, false, false, false, false, false, false, false, false, false] (by kernel_rfl) rfl rfl ⟨hx699_0, hx699_1, hx699_2, hx699_3, hx700_0, hx700_1, hx700_2, hx700_3⟩ (fun hHeld => ?_); refine with_tabW laws_FnPlateEdges.tab24 laws_FnPlateEdges.bits24 (fun HT_ HW_ => ?_)
                        generalize wr.drew = w53 at HO_4 HO_6 HO_681000 HO_681001 BK680 HB hx699_0 hx699_1 hx699_2 hx699_3 hx700_0 hx700_1 hx700_2 hx700_3 hHeld ⊢
                        refine pu_ HT_.out 0 80 {} ?_; refine pu_ HT_.out 1 81 {} ?_; refine pu_ HT_.out 2 82 {} ?_; refine pu_ HT_.out 3 83 {} ?_; refine pu_ HT_.out 4 84 {} ?_; refine pu_ HT_.out 5 85 {} ?_; refine pu_ HT_.out 6 86 {} ?_; refine pu_ HT_.out 8 88 {} ?_; refine pu_ HT_.out 9 89 {} ?_; refine pu_ HT_.out 10 90 {} ?_; refine tk_ HT_.out HW_.out 7 87 hHeld {} ?_; refine tk_ HT_.out HW_.out 11 91 hHeld {} ?_
                        refine one_ (i := 12) (N := some 92) #[true, true, true, true, true, true, true, true, true, true, true, true, true, false] rfl rfl (one_of HT_.out (by kernel_rfl)) (by decide) (fun K hK => ?_); refine goes_ Try.func19 (by kernel_rfl) rfl #[.agg #[.int .i64 ((rd_T35 t681 x9_3).f0.f0), .int .i64 ((rd_T35 t681 x9_3).f0.f1), .int .i64 ((rd_T35 t681 x9_3).f1.f0), .int .i64 ((rd_T35 t681 x9_3).f1.f1)], .agg #[.int .i64 ((rd_T35 t681 x10_4).f0.f0), .int .i64 ((rd_T35 t681 x10_4).f0.f1), .int .i64 ((rd_T35 t681 x10_4).f1.f0), .int .i64 ((rd_T35 t681 x10_4).f1.f1)]] (by rfl) rfl rfl ga_ ?_; with_reducible refine (impl_SegMeet.calls k4 ((rd_T35 t681 x9_3).f0.f0) ((rd_T35 t681 x9_3).f0.f1) ((rd_T35 t681 x9_3).f1.f0) ((rd_T35 t681 x9_3).f1.f1) ((rd_T35 t681 x10_4).f0.f0) ((rd_T35 t681 x10_4).f0.f1) ((rd_T35 t681 x10_4).f1.f0) ((rd_T35 t681 x10_4).f1.f1) true _ A51.out).mono ?_
                        rintro e w54 ⟨rfl, hb⟩; have HS0_ := (hb.cell (World.block_lt_of_cell? _ _ (hHeld.1))).trans (hHeld.1); have HS1_ := (hb.cell (World.block_lt_of_cell? _ _ (hHeld.2.1))).trans (hHeld.2.1); have HS2_ := (hb.cell (World.block_lt_of_cell? _ _ (hHeld.2.2.1))).trans (hHeld.2.2.1); have HS3_ := (hb.cell (World.block_lt_of_cell? _ _ (hHeld.2.2.2.1))).trans (hHeld.2.2.2.1); have HS4_ := (hb.cell (World.block_lt_of_cell? _ _ (hHeld.2.2.2.2.1))).trans (hHeld.2.2.2.2.1); have HS5_ := (hb.cell (World.block_lt_of_cell? _ _ (hHeld.2.2.2.2.2.1))).trans (hHeld.2.2.2.2.2.1); have HS6_ := (hb.cell (World.block_lt_of_cell? _ _ (hHeld.2.2.2.2.2.2.1))).trans (hHeld.2.2.2.2.2.2.1); have HS7_ := (hb.cell (World.block_lt_of_cell? _ _ (hHeld.2.2.2.2.2.2.2))).trans (hHeld.2.2.2.2.2.2.2); refine ⟨_, rfl, ?_⟩; have n0_ := A_ (Kd.R_below (pR_ HO_4.out) hb); have n1_ := A_ (Kd.R_below (pR_ HO_6.out) hb); have n2_ := A_ (Kd.R_below (pR_ HO_681000.out) hb); have n3_ := A_ (Kd.N_below (pN_ HO_681001.out) hb); have n4_ := bw_ BK680.out hb; have n5_ := sb_ hb; clear HO_4 HO_6 HO_681000 HO_681001 BK680 HB; revert n0_ n1_ n2_ n3_ n4_ n5_; intro HO_4 HO_6 HO_681000 HO_681001 BK680 HB; (try clear hb); refine hK.out _ _ ⟨HS0_, HS1_, HS2_, HS3_, HS4_, HS5_, HS6_, HS7_⟩ (fun hHeld => ?_); clear hK K; refine norm_ (a' := ?_) ?_ ?_; rotate_left; ·show Act.put _ (some 92) _ = _; simp only [Act.put, Geo.sa_, Geo.sb_, Geo.sc_, i64_w, i32_w]; rfl
                        refine pu_ HT_.out 13 93 {} ?_
                        refine done_ (done_of HT_.out (by kernel_rfl)) ?_; try go_wp2
                        go_ret
                        exact ⟨by first | rfl | (simp [errW_none, errW_some] <;> rfl) | (simp [*, errW_none, errW_some] <;> rfl), hB_⟩
                       ·replace c52 := Bool.eq_false_iff.mpr c52; subst c52; have H1 : (laws_FnPlateEdges.l2 k4 t681 x6_2 (t687.length : Int) x9_3 (wrap64 (x10_4 + 1))) = some r := by rw [if_neg (show ¬ (false = true) by decide)] at H; exact H
                        clear H; have H := H1; clear H1; have H' := A_ H; clear H; try go_wp2
                        have n0_ := A_ (Kd.R_drew HO_4.out); have n1_ := A_ (Kd.R_drew HO_6.out); have n2_ := A_ (Kd.R_drew HO_681000.out); have n3_ := A_ (Kd.N_drew HO_681001.out); have n4_ := A_ (blk_drew BK680.out); have n5_ := A_ (below_drew1 HB.out); clear HO_4 HO_6 HO_681000 HO_681001 BK680 HB; revert n0_ n1_ n2_ n3_ n4_ n5_; intro HO_4 HO_6 HO_681000 HO_681001 BK680 HB; have p699 : 0 ≤ (x9_3 : Int) := of_decide_eq_true (by first | (with_reducible assumption) | assumption); have q699 : x9_3 < (t681.length : Int) := of_decide_eq_true (by first | (with_reducible assumption) | assumption); obtain ⟨ad699, e699, hx699_0, hx699_1, hx699_2, hx699_3⟩ := at_T35 (Kd.R_reads' HO_4.out).2.2 x9_3 p699 q699; obtain rfl : ad697 = ad699 := (by injection e699); replace p699 := eq_true p699; replace q699 := eq_true q699; have p700 : 0 ≤ (x10_4 : Int) := of_decide_eq_true (by first | (with_reducible assumption) | assumption); have q700 : x10_4 < (t681.length : Int) := of_decide_eq_true (by first | (with_reducible assumption) | assumption); obtain ⟨ad700, e700, hx700_0, hx700_1, hx700_2, hx700_3⟩ := at_T35 (Kd.R_reads' HO_4.out).2.2 x10_4 p700 q700; obtain rfl : ad697 = ad700 := (by injection e700); replace p700 := eq_true p700; replace q700 := eq_true q700; refine start_ (n := 14) (S := fun w' => w'.cell? (ad697.add ((x9_3).toNat * 4)) = some (.int .i64 ((rd_T35 t681 x9_3).f0.f0)) ∧ w'.cell? ⟨(ad697.add ((x9_3).toNat * 4)).block, (ad697.add ((x9_3).toNat * 4)).off + 1, none⟩ = some (.int .i64 ((rd_T35 t681 x9_3).f0.f1)) ∧ w'.cell? ⟨(ad697.add ((x9_3).toNat * 4)).block, (ad697.add ((x9_3).toNat * 4)).off + 2, none⟩ = some (.int .i64 ((rd_T35 t681 x9_3).f1.f0)) ∧ w'.cell? ⟨(ad697.add ((x9_3).toNat * 4)).block, (ad697.add ((x9_3).toNat * 4)).off + 3, none⟩ = some (.int .i64 ((rd_T35 t681 x9_3).f1.f1)) ∧ w'.cell? (ad697.add ((x10_4).toNat * 4)) = some (.int .i64 ((rd_T35 t681 x10_4).f0.f0)) ∧ w'.cell? ⟨(ad697.add ((x10_4).toNat * 4)).block, (ad697.add ((x10_4).toNat * 4)).off + 1, none⟩ = some (.int .i64 ((rd_T35 t681 x10_4).f0.f1)) ∧ w'.cell? ⟨(ad697.add ((x10_4).toNat * 4)).block, (ad697.add ((x10_4).toNat * 4)).off + 2, none⟩ = some (.int .i64 ((rd_T35 t681 x10_4).f1.f0)) ∧ w'.cell? ⟨(ad697.add ((x10_4).toNat * 4)).block, (ad697.add ((x10_4).toNat * 4)).off + 3, none⟩ = some (.int .i64 ((rd_T35 t681 x10_4).f1.f1))) (ds := []) #[false, false, false, false, false, false, false, false, false, false, false, false, false, false] (by kernel_rfl) rfl rfl ⟨hx699_0, hx699_1, hx699_2, hx699_3, hx700_0, hx700_1, hx700_2, hx700_3⟩ (fun hHeld => ?_); refine with_tabW laws_FnPlateEdges.tab24 laws_FnPlateEdges.bits24 (fun HT_ HW_ => ?_)
                        generalize wr.drew = w55 at HO_4 HO_6 HO_681000 HO_681001 BK680 HB hx699_0 hx699_1 hx699_2 hx699_3 hx700_0 hx700_1 hx700_2 hx700_3 hHeld ⊢
                        refine pu_ HT_.out 0 80 {} ?_; refine pu_ HT_.out 1 81 {} ?_; refine pu_ HT_.out 2 82 {} ?_; refine pu_ HT_.out 3 83 {} ?_; refine pu_ HT_.out 4 84 {} ?_; refine pu_ HT_.out 5 85 {} ?_; refine pu_ HT_.out 6 86 {} ?_; refine pu_ HT_.out 8 88 {} ?_; refine pu_ HT_.out 9 89 {} ?_; refine pu_ HT_.out 10 90 {} ?_; refine tk_ HT_.out HW_.out 7 87 hHeld {} ?_; refine tk_ HT_.out HW_.out 11 91 hHeld {} ?_
                        refine one_ (i := 12) (N := some 92) #[true, true, true, true, true, true, true, true, true, true, true, true, true, false] rfl rfl (one_of HT_.out (by kernel_rfl)) (by decide) (fun K hK => ?_); refine goes_ Try.func19 (by kernel_rfl) rfl #[.agg #[.int .i64 ((rd_T35 t681 x9_3).f0.f0), .int .i64 ((rd_T35 t681 x9_3).f0.f1), .int .i64 ((rd_T35 t681 x9_3).f1.f0), .int .i64 ((rd_T35 t681 x9_3).f1.f1)], .agg #[.int .i64 ((rd_T35 t681 x10_4).f0.f0), .int .i64 ((rd_T35 t681 x10_4).f0.f1), .int .i64 ((rd_T35 t681 x10_4).f1.f0), .int .i64 ((rd_T35 t681 x10_4).f1.f1)]] (by rfl) rfl rfl ga_ ?_; with_reducible refine (impl_SegMeet.calls k4 ((rd_T35 t681 x9_3).f0.f0) ((rd_T35 t681 x9_3).f0.f1) ((rd_T35 t681 x9_3).f1.f0) ((rd_T35 t681 x9_3).f1.f1) ((rd_T35 t681 x10_4).f0.f0) ((rd_T35 t681 x10_4).f0.f1) ((rd_T35 t681 x10_4).f1.f0) ((rd_T35 t681 x10_4).f1.f1) false _ A51.out).mono ?_
                        rintro e w56 ⟨rfl, hb⟩; have HS0_ := (hb.cell (World.block_lt_of_cell? _ _ (hHeld.1))).trans (hHeld.1); have HS1_ := (hb.cell (World.block_lt_of_cell? _ _ (hHeld.2.1))).trans (hHeld.2.1); have HS2_ := (hb.cell (World.block_lt_of_cell? _ _ (hHeld.2.2.1))).trans (hHeld.2.2.1); have HS3_ := (hb.cell (World.block_lt_of_cell? _ _ (hHeld.2.2.2.1))).trans (hHeld.2.2.2.1); have HS4_ := (hb.cell (World.block_lt_of_cell? _ _ (hHeld.2.2.2.2.1))).trans (hHeld.2.2.2.2.1); have HS5_ := (hb.cell (World.block_lt_of_cell? _ _ (hHeld.2.2.2.2.2.1))).trans (hHeld.2.2.2.2.2.1); have HS6_ := (hb.cell (World.block_lt_of_cell? _ _ (hHeld.2.2.2.2.2.2.1))).trans (hHeld.2.2.2.2.2.2.1); have HS7_ := (hb.cell (World.block_lt_of_cell? _ _ (hHeld.2.2.2.2.2.2.2))).trans (hHeld.2.2.2.2.2.2.2); refine ⟨_, rfl, ?_⟩; have n0_ := A_ (Kd.R_below (pR_ HO_4.out) hb); have n1_ := A_ (Kd.R_below (pR_ HO_6.out) hb); have n2_ := A_ (Kd.R_below (pR_ HO_681000.out) hb); have n3_ := A_ (Kd.N_below (pN_ HO_681001.out) hb); have n4_ := bw_ BK680.out hb; have n5_ := sb_ hb; clear HO_4 HO_6 HO_681000 HO_681001 BK680 HB; revert n0_ n1_ n2_ n3_ n4_ n5_; intro HO_4 HO_6 HO_681000 HO_681001 BK680 HB; (try clear hb); refine hK.out _ _ ⟨HS0_, HS1_, HS2_, HS3_, HS4_, HS5_, HS6_, HS7_⟩ (fun hHeld => ?_); clear hK K; refine norm_ (a' := ?_) ?_ ?_; rotate_left; ·show Act.put _ (some 92) _ = _; simp only [Act.put, Geo.sa_, Geo.sb_, Geo.sc_, i64_w, i32_w]; rfl
                        refine pu_ HT_.out 13 93 {} ?_
                        refine done_ (done_of HT_.out (by kernel_rfl)) ?_; try go_wp2
                        go_roundg k4
                        case measure => have := HJ5.out; have := HK2.out; have := HK3.out; have := HK4.out; omega
                        case rel => exact ⟨(wrap64 (x10_4 + 1)), (by first | rfl | (simp; done) | (simp [*]; done)), H', ⟨by have := HJ5.out; have := HK2.out; have := HK3.out; have := HK4.out; omega⟩, ⟨by (with_reducible repeat (first | apply Kd.R_alloc | apply Kd.R_drewN | apply Kd.R_drew)); exact HO_4.out⟩, ⟨by (with_reducible repeat (first | apply Kd.R_alloc | apply Kd.R_drewN | apply Kd.R_drew)); exact HO_6.out⟩, ⟨by (with_reducible repeat (first | apply Kd.R_alloc | apply Kd.R_drewN | apply Kd.R_drew)); exact HO_681000.out⟩, ⟨by (with_reducible repeat (first | apply Kd.N_alloc | apply Kd.N_drewN | apply Kd.N_drew)); exact HO_681001.out⟩, ⟨by (with_reducible repeat (first | refine blk_drewN ?_ _ | refine blk_drew ?_ | refine blk_alloc ?_ _)); exact BK680.out⟩, ⟨hB_⟩⟩
                      ·rw [if_neg c50] at H; exact absurd H (by simp)
                     ·rw [if_neg c49] at H; exact absurd H (by simp)
                    ·rw [if_neg c48] at H; exact absurd H (by simp)
                   ·rw [if_neg c47] at H; exact absurd H (by simp)
                  ·rw [if_neg c46] at H; have c46b0 : decide ((t687.length : Int) ≤ x9_3) = false := decide_eq_false c46; clear c46; have H' := A_ H; clear H; try go_wp2
                   have n0_ := A_ (Kd.R_drew HO_4.out); have n1_ := A_ (Kd.R_drew HO_6.out); have n2_ := A_ (Kd.R_drew HO_681000.out); have n3_ := A_ (Kd.N_drew HO_681001.out); have n4_ := A_ (blk_drew BK680.out); have n5_ := A_ (below_drew1 HB.out); clear HO_4 HO_6 HO_681000 HO_681001 BK680 HB; revert n0_ n1_ n2_ n3_ n4_ n5_; intro HO_4 HO_6 HO_681000 HO_681001 BK680 HB; refine start_ (n := 14) (S := fun w' => True) (ds := []) #[false, false, false, false, false, false, false, false, false, false, false, false, false, false] (by kernel_rfl) rfl rfl trivial (fun hHeld => ?_); refine with_tabW laws_FnPlateEdges.tab24 laws_FnPlateEdges.bits24 (fun HT_ HW_ => ?_)
                   generalize wr.drew = w57 at HO_4 HO_6 HO_681000 HO_681001 BK680 HB hHeld ⊢
                   refine pu_ HT_.out 0 80 {} ?_; refine pu_ HT_.out 1 81 {} ?_; refine pu_ HT_.out 2 82 {} ?_; refine pu_ HT_.out 3 83 {} ?_; refine pv_ HT_.out 4 84 {} ?_; refine pv_ HT_.out 5 85 {} ?_; refine pv_ HT_.out 6 86 {} ?_; refine pv_ HT_.out 7 87 {} ?_; refine pv_ HT_.out 8 88 {} ?_; refine pv_ HT_.out 9 89 {} ?_; refine pv_ HT_.out 10 90 {} ?_; refine pv_ HT_.out 11 91 {} ?_; refine pv_ HT_.out 12 92 {} ?_; refine pu_ HT_.out 13 93 {} ?_
                   refine done_ (done_of HT_.out (by kernel_rfl)) ?_; try go_wp2
                   go_roundg k4
                   case measure => have := HJ5.out; have := HK2.out; have := HK3.out; have := HK4.out; omega
                   case rel => exact ⟨(wrap64 (x10_4 + 1)), (by first | rfl | (simp; done) | (simp [*]; done)), H', ⟨by have := HJ5.out; have := HK2.out; have := HK3.out; have := HK4.out; omega⟩, ⟨by (with_reducible repeat (first | apply Kd.R_alloc | apply Kd.R_drewN | apply Kd.R_drew)); exact HO_4.out⟩, ⟨by (with_reducible repeat (first | apply Kd.R_alloc | apply Kd.R_drewN | apply Kd.R_drew)); exact HO_6.out⟩, ⟨by (with_reducible repeat (first | apply Kd.R_alloc | apply Kd.R_drewN | apply Kd.R_drew)); exact HO_681000.out⟩, ⟨by (with_reducible repeat (first | apply Kd.N_alloc | apply Kd.N_drewN | apply Kd.N_drew)); exact HO_681001.out⟩, ⟨by (with_reducible repeat (first | refine blk_drewN ?_ _ | refine blk_drew ?_ | refine blk_alloc ?_ _)); exact BK680.out⟩, ⟨hB_⟩⟩
                 ·rw [if_neg c45] at H; have c45b0 : decide (x10_4 < (t687.length : Int)) = false := decide_eq_false c45; clear c45; have H' := A_ H; clear H; go_wp2
                  go_roundg k4
                  case measure => have := HJ5.out; have := HK2.out; have := HK3.out; have := HK4.out; omega
                  case rel => exact ⟨(wrap64 (x9_3 + 1)), (by first | rfl | (simp; done) | (simp [*]; done)), H', ⟨by have := HJ5.out; have := HK2.out; have := HK3.out; have := HK4.out; omega⟩, ⟨by (with_reducible repeat (first | apply Kd.R_alloc | apply Kd.R_drewN | apply Kd.R_drew)); exact HO_4.out⟩, ⟨by (with_reducible repeat (first | apply Kd.R_alloc | apply Kd.R_drewN | apply Kd.R_drew)); exact HO_6.out⟩, ⟨by (with_reducible repeat (first | apply Kd.R_alloc | apply Kd.R_drewN | apply Kd.R_drew)); exact HO_681000.out⟩, ⟨by (with_reducible repeat (first | apply Kd.N_alloc | apply Kd.N_drewN | apply Kd.N_drew)); exact HO_681001.out⟩, ⟨by (with_reducible repeat (first | refine blk_drewN ?_ _ | refine blk_drew ?_ | refine blk_alloc ?_ _)); exact BK680.out⟩, ⟨hB_⟩⟩
             ·rw [if_neg c41] at H; exact absurd H (by simp)
            ·rw [if_neg c40] at H; exact absurd H (by simp)
           ·rw [if_neg c39] at H; have c39b0 : decide (x9_3 < (t681.length : Int)) = false := decide_eq_false c39; clear c39; obtain rfl := Option.some.inj H; go_wp2
            go_ret
            exact ⟨by first | rfl | (simp [errW_none, errW_some] <;> rfl) | (simp [*, errW_none, errW_some] <;> rfl), hB_⟩
        ·rw [if_neg c35] at H; have c35b0 : ((x6_2.length : Int) == (t681.length : Int)) = false := beq_eq_false_iff_ne.mpr c35; have c35b1 : ((x6_2.length : Int) != (t681.length : Int)) = true := bne_iff_ne.mpr c35; have c35b2 : (x6_2.length == t681.length) = false := by first | simpa using c35 | (simp at c35 ⊢; omega)
         obtain rfl := Option.some.inj H; obtain ⟨hcz58_0, hcz58_1, hfz58_0, hfz58_1⟩ := by2 BK680.out; obtain ⟨Ao59, co59, eo59⟩ := Kd.R_slice HO_6.out; subst eo59; obtain ⟨Ao60, co60, eo60⟩ := Kd.R_slice HO_4.out; subst eo60; go_wp2
         go_ret
         exact ⟨by first | rfl | (simp [errW_none, errW_some] <;> rfl) | (simp [*, errW_none, errW_some] <;> rfl), hB_⟩

/-- THE ONE PURE STATEMENT of laws_FnPlateEdges: yours. -/
def laws_FnPlateEdges.Pure : Prop := ∀ (l0 : List Int), l0.length ≤ maxLen → l0.length * 1 ≤ 140737488351232 → (∀ x ∈ l0, (Lit.int .u8 x).wf = true) → ∃ k, laws_FnPlateEdges.f k l0 = some true
theorem laws_FnPlateEdges.walk (P : laws_FnPlateEdges.Pure) (a0 : Option Addr) (len0 cap0 : Nat) (z0 : List Int) (w : World) (w0 : (a0 = none ∧ len0 = 0 ∧ cap0 = 0 ∧ z0 = []) ∨ ∃ x, a0 = some x ∧ len0 ≤ cap0 ∧ cap0 ≤ maxLen ∧ z0.length = cap0 ∧ (∀ i, i < z0.length → w.cell? (x.add i) = some (.int .u8 (z0.getD i 0))) ∧ ∀ n ∈ z0, (Lit.int .u8 n).wf = true) (y0 : len0 * 1 ≤ 140737488351232) :
  Calls Try.prog 7 #[.slice a0 len0 cap0] w fun e w' => e = .returned (.bool true) ∧ Below w.heap.size w w' := by
 obtain ⟨l0, rfl, hr0, hm0, hw0, hc0⟩ := ReadsInt.ofRowC w0; obtain ⟨k, h⟩ := P l0 hm0 y0 hw0; refine (laws_FnPlateEdges.calls k _ _ l0 true w (Kd.C_of_reads (d := (0 : Int)) (h1 := fun _ => rfl) hr0) hc0 h).mono ?_; rintro e w' ⟨rfl, hd⟩; exact ⟨rfl, hd⟩

end Go.Proofs.Ytehkklmacglelaa.PA
namespace Go.Proofs.Ytehkklmacglelaa.Pure
open Go.RowKit Go.Proofs.Ytehkklmacglelaa.PA Go.Proofs.YtehkklmacglelaaW.PrintWords Go.Proofs.YtehkklmacglelaaW.PrintLast Go.Proofs.YtehkklmacglelaaW.PrintMore
open Go.Proofs.Ytehkklmacglelaa
set_option linter.unusedVariables false
set_option linter.unusedSimpArgs false

theorem l6In_tells (a b c : Int) : spec_l6In.f a b c = some (decide (b ≤ a) && decide (a ≤ c)) := by
  unfold spec_l6In.f
  by_cases h : a ≥ b
  · rw [if_pos h, decide_eq_true (show b ≤ a from h), Bool.true_and]
  · rw [if_neg h, decide_eq_false (show ¬ b ≤ a from h), Bool.false_and]

theorem sPtOk_tells (x y : Int) : spec_PtOk.f x y = some (Geo.ok (x, y)) := by
  unfold spec_PtOk.f
  simp only [l6In_tells, Option.bind_some, Geo.ok]
  by_cases h : (decide (0 ≤ x) && decide (x ≤ 9)) = true
  · rw [if_pos h]; rw [Bool.and_eq_true] at h; rw [h.1, h.2]; rfl
  · rw [if_neg h]; rw [Bool.not_eq_true, Bool.and_eq_false_iff] at h; rcases h with h | h <;> rw [h] <;> simp

theorem iPtOk_tells (x y : Int) : impl_PtOk.f x y = some (Geo.ok (x, y)) := by
  unfold impl_PtOk.f
  by_cases h1 : 0 ≤ x <;> by_cases h2 : x ≤ 9 <;> by_cases h3 : 0 ≤ y <;> simp [Geo.ok, h1, h2, h3]

theorem pick_tells (k : Nat) {b : List Int} {p n : Int} (hb : ∀ x ∈ b, 0 ≤ x ∧ x < 256) (hl : b.length ≤ 2000) (hp0 : 0 ≤ p) (hp : p ≤ 1000000) (hn : 1 ≤ n) (hn' : n ≤ 1000000) :
    ∃ v, spec_l6Rd_pick.f (k + 1) b p n = some (v, p + 1) ∧ 0 ≤ v ∧ v < n := by
  have rdb : ∀ i, 0 ≤ rd b i ∧ rd b i < 256 := by
    intro i
    unfold rd
    rw [List.getD_eq_getElem?_getD]
    rcases h : b[i.toNat]? with _ | x
    · simp
    · simp only [Option.getD_some]; exact hb x (List.mem_of_getElem? h)
  unfold spec_l6Rd_pick.f
  rw [if_neg (by omega), Geo.w64 (by omega) (by omega)]
  simp only [spec_l6Rd_pick.j0]
  rw [show p + 1 - 1 = p from by omega, Geo.w64 (n := p) (by omega) (by omega)]
  by_cases hz : (b.length : Int) = 0
  · rw [if_pos (by rw [hz]; rfl)]
    exact ⟨0, rfl, by omega, by omega⟩
  rw [if_neg (by rw [beq_iff_eq]; exact hz)]
  by_cases hlt : p < (b.length : Int)
  · rw [if_pos hlt, if_pos hp0, if_neg (by omega)]
    have h := rdb p
    rw [Geo.w64 (by omega) (by omega), Int.tmod_eq_emod_of_nonneg h.1]
    exact ⟨_, rfl, Int.emod_nonneg _ (by omega), Int.emod_lt_of_pos _ (by omega)⟩
  rw [if_neg hlt, if_neg hz]
  have hL : 0 < (b.length : Int) := by omega
  have e7 : wrap64 (p * 7) = p * 7 := Geo.w64 (by omega) (by omega)
  have e73 : wrap64 (p * 7 + 3) = p * 7 + 3 := Geo.w64 (by omega) (by omega)
  rw [e7, e73, Int.tmod_eq_emod_of_nonneg hp0, Int.tmod_eq_emod_of_nonneg (show 0 ≤ p * 7 + 3 by omega)]
  rw [if_pos (Int.emod_nonneg _ (by omega)), if_pos (Int.emod_lt_of_pos _ hL), if_pos (Int.emod_nonneg _ (by omega)), if_pos (Int.emod_lt_of_pos _ hL), if_neg (by omega)]
  have h1 := rdb (p % (b.length : Int))
  have h2 := rdb ((p * 7 + 3) % (b.length : Int))
  generalize rd b (p % (b.length : Int)) = u at h1 ⊢
  generalize rd b ((p * 7 + 3) % (b.length : Int)) = v at h2 ⊢
  have h3 : 0 ≤ Int.tdiv p (b.length : Int) ∧ Int.tdiv p (b.length : Int) ≤ p := ⟨Int.tdiv_nonneg hp0 (by omega), Int.tdiv_le_self _ hp0⟩
  generalize Int.tdiv p (b.length : Int) = q at h3 ⊢
  rw [Geo.w64 (n := u) (by omega) (by omega), Geo.w64 (n := v) (by omega) (by omega), Geo.w64 (n := q) (by omega) (by omega), Geo.w64 (n := u * 131) (by omega) (by omega), Geo.w64 (n := v * 1117) (by omega) (by omega),
    Geo.w64 (n := u * 131 + v * 1117) (by omega) (by omega), Geo.w64 (n := p * 29) (by omega) (by omega), Geo.w64 (n := u * 131 + v * 1117 + p * 29) (by omega) (by omega), Geo.w64 (n := q * 53) (by omega) (by omega),
    Geo.w64 (n := u * 131 + v * 1117 + p * 29 + q * 53) (by omega) (by omega)]
  have hx : 0 ≤ u * 131 + v * 1117 + p * 29 + q * 53 ∧ u * 131 + v * 1117 + p * 29 + q * 53 < 1099511627776 := by omega
  generalize u * 131 + v * 1117 + p * 29 + q * 53 = x at hx ⊢
  have hy : 0 ≤ Int.tdiv x 64 ∧ Int.tdiv x 64 < 1099511627776 := by rw [Int.tdiv_eq_ediv_of_nonneg hx.1]; omega
  rw [Geo.w64 (n := Int.tdiv x 64) (by omega) (by omega)]
  have hz := Geo.xor_nonneg hx.1 hx.2 hy.1 hy.2
  generalize Go.bits .xor .i64 x (Int.tdiv x 64) = z at hz ⊢
  rw [Int.tmod_eq_emod_of_nonneg hz]
  exact ⟨_, rfl, Int.emod_nonneg _ (by omega), Int.emod_lt_of_pos _ (by omega)⟩
theorem pick_at (k : Nat) {b : List Int} {p m n : Int} (h : Geo.Rdr b p m) (hm : m ≤ 1000000) (hn : 1 ≤ n) (hn' : n ≤ 1000000) :
    ∃ v, spec_l6Rd_pick.f (k + 1) b p n = some (v, p + 1) ∧ 0 ≤ v ∧ v < n := pick_tells k h.1 h.2.1 h.2.2.1 (by have := h.2.2.2; omega) hn hn'

theorem open_tells {l : List Int} (hl : ∀ x ∈ l, (Lit.int .u8 x).wf = true) : ∃ b, spec_l6Open.f l = some (b, 0) ∧ Geo.Rdr b 0 0 := by
  have hb : ∀ x ∈ l, 0 ≤ x ∧ x < 256 := fun x hx => by
    have h := hl x hx
    simp [Lit.wf, IntKind.min, IntKind.max, IntKind.signed, IntKind.bits] at h
    omega
  unfold spec_l6Open.f
  by_cases h : (l.length : Int) > 2000
  · rw [if_pos h, if_pos (by omega)]
    exact ⟨_, rfl, fun x hx => hb x (List.mem_of_mem_take hx), by rw [List.length_take]; omega, by omega, by omega⟩
  · rw [if_neg h]
    exact ⟨_, rfl, hb, by omega, by omega, by omega⟩

theorem rd_pair (n : Int) (h0 : 0 ≤ n) (h1 : n < 2) : Geo.Near (rd [-1, 10] n) := by
  rcases (by omega : n = 0 ∨ n = 1) with rfl | rfl <;> simp [rd, Geo.Near]
theorem l71Pt_tells (k : Nat) {b : List Int} {p m : Int} (h : Geo.Rdr b p m) (hm : m ≤ 900000) :
    ∃ x y q, spec_l71Pt.f (k + 1) b p = some (x, y, q) ∧ Geo.Near x ∧ Geo.Near y ∧ Geo.Rdr b q (m + 4) := by
  have hlo := h.lo
  have hhi := h.hi
  obtain ⟨v1, e1, a1, b1⟩ := pick_at k h (by omega) (show (1 : Int) ≤ 10 by omega) (by omega)
  obtain ⟨v2, e2, a2, b2⟩ := pick_at k (h.up (q := p + 1) (n := m + 1) (by omega) (by omega)) (by omega) (show (1 : Int) ≤ 10 by omega) (by omega)
  obtain ⟨v3, e3, a3, b3⟩ := pick_at k (h.up (q := p + 1 + 1) (n := m + 2) (by omega) (by omega)) (by omega) (show (1 : Int) ≤ 40 by omega) (by omega)
  obtain ⟨v4, e4, a4, b4⟩ := pick_at k (h.up (q := p + 1 + 1 + 1) (n := m + 3) (by omega) (by omega)) (by omega) (show (1 : Int) ≤ 2 by omega) (by omega)
  unfold spec_l71Pt.f
  simp only [e1, e2, e3, e4, Option.bind_some]
  have hr := rd_pair v4 a4 b4
  have hl : v4 < (([-1, 10] : List Int).length : Int) := by simp; omega
  have n1 : Geo.Near v1 := ⟨by omega, by omega⟩
  have n2 : Geo.Near v2 := ⟨by omega, by omega⟩
  by_cases c : v3 = 0
  · rw [if_pos c, if_pos a4, if_pos hl]
    exact ⟨_, _, _, rfl, hr, n2, h.up (by omega) (by omega)⟩
  · rw [if_neg c]
    by_cases c' : v3 = 1
    · rw [if_pos c', if_pos a4, if_pos hl]
      exact ⟨_, _, _, rfl, n1, hr, h.up (by omega) (by omega)⟩
    · rw [if_neg c']
      exact ⟨_, _, _, rfl, n1, n2, h.up (by omega) (by omega)⟩

theorem sSegOk_tells (a b c d : Int) : spec_SegOk.f a b c d = some (Geo.segOk (a, b) (c, d)) := by
  unfold spec_SegOk.f
  simp only [sPtOk_tells, Option.bind_some, Geo.pne]
  unfold Geo.segOk
  cases h1 : Geo.ok (a, b) <;> cases h2 : Geo.ok (c, d) <;> rfl

theorem iSegOk_tells (a b c d : Int) : impl_SegOk.f a b c d = some (Geo.segOk (a, b) (c, d)) := by
  unfold impl_SegOk.f
  simp only [iPtOk_tells, Option.bind_some, Geo.pne]
  unfold Geo.segOk
  cases h1 : Geo.ok (a, b) <;> cases h2 : Geo.ok (c, d) <;> rfl

theorem l2Sign_tells (n : Int) : spec_l2Sign.f n = some (Geo.sgn n) := by
  unfold spec_l2Sign.f Geo.sgn; repeat' split
  all_goals rfl

theorem l2Cross_tells {a b c d e f : Int} (h1 : Geo.ok (a, b) = true) (h2 : Geo.ok (c, d) = true) (h3 : Geo.ok (e, f) = true) : spec_l2Cross.f a b c d e f = some (Geo.cross (a, b) (c, d) (e, f)) := by
  have hb := Geo.cross_bd h1 h2 h3
  rw [Geo.ok_iff] at h1 h2 h3
  have m1 := Geo.mul_bd (m := c - a) (n := f - b) (by omega) (by omega) (by omega) (by omega)
  have m2 := Geo.mul_bd (m := d - b) (n := e - a) (by omega) (by omega) (by omega) (by omega)
  unfold spec_l2Cross.f
  unfold Geo.cross at hb ⊢
  simp only at h1 h2 h3 hb ⊢
  rw [Geo.w64 (n := c - a) (by omega) (by omega), Geo.w64 (n := f - b) (by omega) (by omega), Geo.w64 (n := d - b) (by omega) (by omega), Geo.w64 (n := e - a) (by omega) (by omega),
    Geo.w64 (n := (c - a) * (f - b)) (by omega) (by omega), Geo.w64 (n := (d - b) * (e - a)) (by omega) (by omega), Geo.w64 (by omega) (by omega)]

theorem iCross_tells {a b c d e f : Int} (h1 : Geo.ok (a, b) = true) (h2 : Geo.ok (c, d) = true) (h3 : Geo.ok (e, f) = true) : impl_cross.f a b c d e f = some (Geo.cross (a, b) (c, d) (e, f)) := by
  have hb := Geo.cross_bd h1 h2 h3
  rw [Geo.ok_iff] at h1 h2 h3
  have m1 := Geo.mul_bd (m := c - a) (n := f - b) (by omega) (by omega) (by omega) (by omega)
  have m2 := Geo.mul_bd (m := d - b) (n := e - a) (by omega) (by omega) (by omega) (by omega)
  unfold impl_cross.f
  unfold Geo.cross at hb ⊢
  simp only at h1 h2 h3 hb ⊢
  rw [Geo.w64 (n := c - a) (by omega) (by omega), Geo.w64 (n := f - b) (by omega) (by omega), Geo.w64 (n := d - b) (by omega) (by omega), Geo.w64 (n := e - a) (by omega) (by omega),
    Geo.w64 (n := (c - a) * (f - b)) (by omega) (by omega), Geo.w64 (n := (d - b) * (e - a)) (by omega) (by omega), Geo.w64 (by omega) (by omega)]

theorem iSegTurn_tells (k : Nat) (a b c d e f : Int) : impl_SegTurn.f (k + 1) a b c d e f = some (Geo.turn (a, b) (c, d) (e, f)) := by
  unfold impl_SegTurn.f
  simp only [iPtOk_tells, Option.bind_some, impl_SegTurn.j0]
  unfold Geo.turn
  cases h1 : Geo.ok (a, b) <;> cases h2 : Geo.ok (c, d) <;> cases h3 : Geo.ok (e, f) <;> simp [iCross_tells, h1, h2, h3, Geo.sgn]
  repeat' split
  all_goals first | rfl | omega

theorem l2Dot_tells {a b c d e f : Int} (h1 : Geo.ok (a, b) = true) (h2 : Geo.ok (c, d) = true) (h3 : Geo.ok (e, f) = true) : spec_l2Dot.f a b c d e f = some (Geo.dot (a, b) (c, d) (e, f)) := by
  have hb := Geo.dot_bd h1 h2 h3
  rw [Geo.ok_iff] at h1 h2 h3
  have m1 := Geo.mul_bd (m := c - a) (n := e - a) (by omega) (by omega) (by omega) (by omega)
  have m2 := Geo.mul_bd (m := d - b) (n := f - b) (by omega) (by omega) (by omega) (by omega)
  unfold spec_l2Dot.f
  unfold Geo.dot at hb ⊢
  simp only at h1 h2 h3 hb ⊢
  rw [Geo.w64 (n := c - a) (by omega) (by omega), Geo.w64 (n := f - b) (by omega) (by omega), Geo.w64 (n := d - b) (by omega) (by omega), Geo.w64 (n := e - a) (by omega) (by omega),
    Geo.w64 (n := (c - a) * (e - a)) (by omega) (by omega), Geo.w64 (n := (d - b) * (f - b)) (by omega) (by omega), Geo.w64 (by omega) (by omega)]

theorem along_tells {a b c d e f : Int} (h1 : Geo.ok (a, b) = true) (h2 : Geo.ok (c, d) = true) (h3 : Geo.ok (e, f) = true) : impl_along.f a b c d e f = some (Geo.dot (a, b) (c, d) (e, f)) := by
  have hb := Geo.dot_bd h1 h2 h3
  rw [Geo.ok_iff] at h1 h2 h3
  have m1 := Geo.mul_bd (m := c - a) (n := e - a) (by omega) (by omega) (by omega) (by omega)
  have m2 := Geo.mul_bd (m := d - b) (n := f - b) (by omega) (by omega) (by omega) (by omega)
  unfold impl_along.f
  unfold Geo.dot at hb ⊢
  simp only at h1 h2 h3 hb ⊢
  rw [Geo.w64 (n := c - a) (by omega) (by omega), Geo.w64 (n := f - b) (by omega) (by omega), Geo.w64 (n := d - b) (by omega) (by omega), Geo.w64 (n := e - a) (by omega) (by omega),
    Geo.w64 (n := (c - a) * (e - a)) (by omega) (by omega), Geo.w64 (n := (d - b) * (f - b)) (by omega) (by omega), Geo.w64 (by omega) (by omega)]

theorem between_tells {a b c d : Int} (h1 : Geo.ok (a, b) = true) (h2 : Geo.ok (c, d) = true) : impl_between.f a b c d = some (Geo.dot (a, b) (c, d) (c, d)) := by
  unfold impl_between.f; rw [along_tells h1 h2 h2]; rfl

theorem l2Has_tells {a b c d e f : Int} (h1 : Geo.ok (a, b) = true) (h2 : Geo.ok (c, d) = true) (h3 : Geo.ok (e, f) = true) : spec_l2Has.f a b c d e f = some (Geo.has0 (a, b) (c, d) (e, f)) := by
  unfold spec_l2Has.f Geo.has0
  simp only [l2Cross_tells h1 h2 h3, l2Dot_tells h1 h2 h3, l2Dot_tells h1 h2 h2, l6In_tells, Option.bind_some]
  by_cases h : Geo.cross (a, b) (c, d) (e, f) = 0 <;> simp [h]

theorem iSegHas_tells (k : Nat) (a b c d e f : Int) : impl_SegHas.f (k + 1) a b c d e f = some (Geo.has (a, b) (c, d) (e, f)) := by
  unfold impl_SegHas.f Geo.has
  simp only [iSegOk_tells, iPtOk_tells, Option.bind_some, impl_SegHas.j0]
  cases h : Geo.segOk (a, b) (c, d)
  · rfl
  · obtain ⟨h1, h2, _⟩ := (Geo.segOk_iff _ _).1 h
    cases h3 : Geo.ok (e, f)
    · rfl
    · simp only [iCross_tells h1 h2 h3, along_tells h1 h2 h3, between_tells h1 h2, Option.bind_some, if_true]
      by_cases h0 : Geo.cross (a, b) (c, d) (e, f) = 0 <;> by_cases h5 : 0 ≤ Geo.dot (a, b) (c, d) (e, f) <;> simp [Geo.has0, h0, h5]

theorem sgn_w64 (m n : Int) : wrap64 (Geo.sgn m * Geo.sgn n) = Geo.sgn m * Geo.sgn n := by
  have h1 := Geo.sgn_bd m
  have h2 := Geo.sgn_bd n
  have := Geo.mul_bd (m := Geo.sgn m) (n := Geo.sgn n) (by omega) (by omega) (by omega) (by omega)
  exact Geo.w64 (by omega) (by omega)
theorem l2Meet_tells {a b c d e f g i : Int} (h1 : Geo.ok (a, b) = true) (h2 : Geo.ok (c, d) = true) (h3 : Geo.ok (e, f) = true) (h4 : Geo.ok (g, i) = true) : spec_l2Meet.f a b c d e f g i = some (Geo.meet0 (a, b) (c, d) (e, f) (g, i)) := by
  unfold spec_l2Meet.f Geo.meet0
  simp only [l2Cross_tells h1 h2 h3, l2Cross_tells h1 h2 h4, l2Cross_tells h3 h4 h1, l2Cross_tells h3 h4 h2, l2Sign_tells, l2Has_tells h1 h2 h3, l2Has_tells h1 h2 h4, l2Has_tells h3 h4 h1, l2Has_tells h3 h4 h2, Option.bind_some, sgn_w64]
  by_cases c1 : Geo.sgn (Geo.cross (a, b) (c, d) (e, f)) * Geo.sgn (Geo.cross (a, b) (c, d) (g, i)) < 0 <;> by_cases c2 : Geo.sgn (Geo.cross (e, f) (g, i) (a, b)) * Geo.sgn (Geo.cross (e, f) (g, i) (c, d)) < 0 <;> cases Geo.has0 (a, b) (c, d) (e, f) <;> cases Geo.has0 (a, b) (c, d) (g, i) <;> cases Geo.has0 (e, f) (g, i) (a, b) <;> simp [c1, c2]

theorem iSegMeet_tells (k : Nat) (a b c d e f g i : Int) : impl_SegMeet.f (k + 3) a b c d e f g i = some (Geo.meet (a, b) (c, d) (e, f) (g, i)) := by
  have tw : ∀ x y z u v w : Geo.P, wrap64 (Geo.turn x y z * Geo.turn u v w) = Geo.turn x y z * Geo.turn u v w := by
    intro x y z u v w
    have h1 := Geo.turn_bd x y z
    have h2 := Geo.turn_bd u v w
    have := Geo.mul_bd (m := Geo.turn x y z) (n := Geo.turn u v w) (by omega) (by omega) (by omega) (by omega)
    exact Geo.w64 (by omega) (by omega)
  unfold impl_SegMeet.f Geo.meet
  simp only [iSegOk_tells, Option.bind_some, impl_SegMeet.j0, impl_SegMeet.j1, iSegHas_tells, iSegTurn_tells, tw]
  cases h : Geo.segOk (a, b) (c, d)
  · rfl
  · cases h' : Geo.segOk (e, f) (g, i)
    · rfl
    · obtain ⟨h1, h2, _⟩ := (Geo.segOk_iff _ _).1 h
      obtain ⟨h3, h4, _⟩ := (Geo.segOk_iff _ _).1 h'
      simp only [Geo.meet0, Geo.has, Geo.turn, h, h', h1, h2, h3, h4, Bool.true_and, Bool.and_true, if_true, Bool.not_true, Bool.false_eq_true, if_false]
      by_cases c1 : Geo.sgn (Geo.cross (a, b) (c, d) (e, f)) * Geo.sgn (Geo.cross (a, b) (c, d) (g, i)) < 0 <;> by_cases c2 : Geo.sgn (Geo.cross (e, f) (g, i) (a, b)) * Geo.sgn (Geo.cross (e, f) (g, i) (c, d)) < 0 <;> cases Geo.has0 (a, b) (c, d) (e, f) <;> cases Geo.has0 (a, b) (c, d) (g, i) <;> cases Geo.has0 (e, f) (g, i) (a, b) <;> cases Geo.has0 (e, f) (g, i) (c, d) <;> simp [c1, c2]

theorem iJoined_tells (k : Nat) (a b c d e f g i : Int) : impl_joined.f (k + 1) a b c d e f g i = some (!Geo.has (a, b) (c, d) (g, i) && !Geo.has (e, f) (g, i) (a, b)) := by
  unfold impl_joined.f
  simp only [iSegHas_tells, Option.bind_some]
  cases Geo.has (a, b) (c, d) (g, i) <;> simp

def tp (s : S25) : Geo.P := (s.f0, s.f1)
theorem pt_rd (l : List S25) (i : Nat) : Geo.pt (l.map tp) i = tp (rd_T25 l ((i % l.length : Nat) : Int)) := by
  unfold Geo.pt rd_T25
  rw [List.length_map, Int.toNat_natCast, List.getD_eq_getElem?_getD, List.getD_eq_getElem?_getD, List.getElem?_map]
  cases l[i % l.length]? <;> rfl
theorem pt_tp {l : List S25} {i : Nat} (h : i < l.length) : Geo.pt (l.map tp) i = tp (rd_T25 l (i : Int)) := by rw [pt_rd, Nat.mod_eq_of_lt h]
theorem upto_all {l : List S25} {p : impl_LoopOk.E → Bool} {m : Nat} : (Edges.upto l m).all p = true ↔ ∀ i, i < m → p (Edges.at_ l i) = true := by
  rw [List.all_eq_true]
  constructor
  · intro h i hi; exact h _ (List.mem_map.2 ⟨i, List.mem_range.2 hi, rfl⟩)
  · intro h x hx
    obtain ⟨i, hi, rfl⟩ := List.mem_map.1 hx
    exact h i (List.mem_range.1 hi)
theorem iLoopOk_tells (l : List S25) : impl_LoopOk.f l = some (Geo.loopOk (l.map tp)) := by
  refine congrArg some ?_
  rw [Bool.eq_iff_iff, Geo.loopOk_iff]
  unfold impl_LoopOk.all
  rw [Bool.and_eq_true, Bool.and_eq_true, Bool.and_eq_true, decide_eq_true_eq, decide_eq_true_eq, upto_all, upto_all]
  have ha : ∀ i, i < l.length → impl_LoopOk.a (Edges.at_ l i) = Geo.pt (l.map tp) i := fun i hi => (pt_tp hi).symm
  have hb : ∀ i, impl_LoopOk.b (Edges.at_ l i) = Geo.pt (l.map tp) (i + 1) := fun i => (pt_rd l (i + 1)).symm
  have wr : ∀ i, i < l.length → l.length ≤ 8 → wrap64 ((i : Int) + 1) = (i : Int) + 1 := fun i h1 h2 => Geo.w64 (by omega) (by omega)
  have hlen : (l.map tp).length = l.length := List.length_map _
  have last : ∀ i, i + 1 = l.length → Geo.pt (l.map tp) (i + 1) = Geo.pt (l.map tp) 0 := fun i e => by
    have := Geo.pt_len (l.map tp) 0
    rw [hlen, Nat.zero_add] at this; rw [e, this]
  have last2 : ∀ i, i + 1 = l.length → Geo.pt (l.map tp) (i + 2) = Geo.pt (l.map tp) (0 + 1) := fun i e => by
    have := Geo.pt_len (l.map tp) 1
    rw [hlen] at this; rw [show i + 2 = 1 + l.length by omega, this]
  have jn : ∀ i j, i < l.length → j < l.length → (impl_LoopOk.joined (Edges.at_ l i) (Edges.at_ l j) = true ↔
      Geo.has (Geo.pt (l.map tp) i) (Geo.pt (l.map tp) (i + 1)) (Geo.pt (l.map tp) (j + 1)) = false ∧ Geo.has (Geo.pt (l.map tp) j) (Geo.pt (l.map tp) (j + 1)) (Geo.pt (l.map tp) i) = false) := by
    intro i j hi hj
    unfold impl_LoopOk.joined
    rw [ha i hi, ha j hj, hb, hb, Bool.and_eq_true, Bool.not_eq_true', Bool.not_eq_true']
  constructor
  · rintro ⟨h3, h8, h1, h2⟩
    have hr : ∀ i, i < l.length → ∀ j, j < l.length → impl_LoopOk.right l.length (Edges.at_ l i) (Edges.at_ l j) = true := fun i hi => upto_all.1 (h2 i hi)
    have f1 : ∀ i, i + 1 < l.length → impl_LoopOk.joined (Edges.at_ l i) (Edges.at_ l (i + 1)) = true := by
      intro i hi
      have := hr i (by omega) (i + 1) hi
      unfold impl_LoopOk.right at this
      rw [show (Edges.at_ l i).1 = i from rfl, show (Edges.at_ l (i + 1)).1 = i + 1 from rfl, if_neg (by omega), if_pos (by rw [wr i (by omega) h8]; omega)] at this
      exact this
    have f2 : impl_LoopOk.joined (Edges.at_ l (l.length - 1)) (Edges.at_ l 0) = true := by
      have := hr 0 (by omega) (l.length - 1) (by omega)
      unfold impl_LoopOk.right at this
      rw [show (Edges.at_ l 0).1 = 0 from rfl, show (Edges.at_ l (l.length - 1)).1 = l.length - 1 from rfl, if_neg (by omega), if_neg (by rw [wr 0 (by omega) h8]; omega), if_pos (by omega)] at this
      exact this
    refine Geo.loop_of (by rw [hlen]; exact h3) (by rw [hlen]; exact h8) (fun i hi => ?_) (fun i hi => ?_) (fun i hi => ?_) (fun i k hik hk h4 h5 => ?_) <;> rw [hlen] at *
    · have := h1 i hi
      unfold impl_LoopOk.one at this
      rwa [ha i hi, hb] at this
    · by_cases e : i + 1 < l.length
      · exact ((jn i (i + 1) hi e).1 (f1 i e)).1
      · have := ((jn (l.length - 1) 0 (by omega) (by omega)).1 f2).1
        rw [show l.length - 1 = i by omega] at this
        rw [last2 i (by omega)]; exact this
    · by_cases e : i + 1 < l.length
      · exact ((jn i (i + 1) hi e).1 (f1 i e)).2
      · have := ((jn (l.length - 1) 0 (by omega) (by omega)).1 f2).2
        rw [show l.length - 1 = i by omega] at this
        rw [last i (by omega), last2 i (by omega)]; exact this
    · have := hr i (by omega) k hk
      unfold impl_LoopOk.right at this
      rw [show (Edges.at_ l i).1 = i from rfl, show (Edges.at_ l k).1 = k from rfl, if_neg (by omega), if_neg (by rw [wr i (by omega) h8]; omega), if_neg (by omega), ha i (by omega), ha k hk, hb, hb, Bool.not_eq_true'] at this
      exact this
  · intro L
    have h3 := L.lo
    have h8 := L.hi
    rw [hlen] at h3 h8
    refine ⟨h3, h8, fun i hi => ?_, fun i hi => upto_all.2 fun j hj => ?_⟩
    · unfold impl_LoopOk.one; rw [ha i hi, hb]; exact L.seg i
    · unfold impl_LoopOk.right
      rw [show (Edges.at_ l i).1 = i from rfl, show (Edges.at_ l j).1 = j from rfl, wr i hi h8]
      by_cases c1 : (j : Int) ≤ (i : Int)
      · rw [if_pos c1]
      rw [if_neg c1]
      by_cases c2 : (j : Int) = (i : Int) + 1
      · rw [if_pos c2]
        obtain rfl : j = i + 1 := by omega
        exact (jn i (i + 1) hi hj).2 ⟨L.fore i, L.back i⟩
      rw [if_neg c2]
      by_cases c3 : (i : Int) = 0 ∧ (j : Int) = (l.length : Int) - 1
      · rw [if_pos c3]
        obtain rfl : i = 0 := by omega
        have e : j + 1 = l.length := by omega
        refine (jn j 0 hj hi).2 ⟨?_, ?_⟩
        · rw [← last2 j e]; exact L.fore j
        · rw [← last2 j e, ← last j e]; exact L.back j
      rw [if_neg c3, ha i hi, ha j hj, hb, hb, Bool.not_eq_true']
      refine L.apart i j ?_ ?_ ?_ <;> rw [hlen]
      · rw [Nat.mod_eq_of_lt hi, Nat.mod_eq_of_lt hj]; omega
      · rw [Nat.mod_eq_of_lt (by omega), Nat.mod_eq_of_lt hj]; omega
      · by_cases e : j + 1 < l.length
        · rw [Nat.mod_eq_of_lt e, Nat.mod_eq_of_lt hi]; omega
        · rw [show j + 1 = l.length by omega, Nat.mod_self, Nat.mod_eq_of_lt hi]; omega
theorem upto_fold {α : Type} (l : List S25) (s : α → impl_LoopOk.E → α) (a : α) (m : Nat) : (Edges.upto l (m + 1)).foldl s a = s ((Edges.upto l m).foldl s a) (Edges.at_ l m) := by
  rw [Edges.upto_succ, List.foldl_append]; rfl

def edg (l : List S25) : List S35 := (List.range l.length).map fun i : Nat => ⟨rd_T25 l (i : Int), rd_T25 l (((i + 1) % l.length : Nat) : Int)⟩
theorem edg_len (l : List S25) : (edg l).length = l.length := by simp [edg]
theorem edg_rd {l : List S25} {i : Nat} (h : i < l.length) : rd_T35 (edg l) (i : Int) = ⟨rd_T25 l (i : Int), rd_T25 l (((i + 1) % l.length : Nat) : Int)⟩ := by
  unfold rd_T35 edg
  rw [Int.toNat_natCast, List.getD_eq_getElem?_getD, List.getElem?_map, List.getElem?_range h]; rfl
theorem edg_a {l : List S25} {i : Nat} (h : i < l.length) : tp (rd_T35 (edg l) (i : Int)).f0 = Geo.pt (l.map tp) i := by rw [edg_rd h, pt_tp h]
theorem edg_b {l : List S25} {i : Nat} (h : i < l.length) : tp (rd_T35 (edg l) (i : Int)).f1 = Geo.pt (l.map tp) (i + 1) := by rw [edg_rd h, pt_rd]
theorem l3Edges_loop {l : List S25} (hl : l.length ≤ 1100000) : ∀ (m i : Nat), i + m = l.length →
    Geo.Ev (fun k => spec_l3Edges.l0 k l ((List.range i).map fun i : Nat => (⟨rd_T25 l (i : Int), rd_T25 l (((i + 1) % l.length : Nat) : Int)⟩ : S35)) (i : Int)) (edg l)
  | 0, i, h => by
    obtain rfl : i = l.length := by omega
    refine (Geo.Ev.const (o := some (edg l)) rfl).step fun k => ?_
    rw [spec_l3Edges.l0, if_neg (by omega)]; rfl
  | m + 1, i, h => by
    have ih := l3Edges_loop hl m (i + 1) (by omega)
    refine ih.step fun k => ?_
    have hm := Nat.mod_lt (i + 1) (show 0 < l.length by omega)
    have e1 : wrap64 ((i : Int) + 1) = ((i + 1 : Nat) : Int) := Geo.w64 (by omega) (by omega)
    have e2 : Int.tmod ((i + 1 : Nat) : Int) (l.length : Int) = (((i + 1) % l.length : Nat) : Int) := (Int.ofNat_tmod _ _).symm
    rw [spec_l3Edges.l0, if_pos (by omega), if_pos (by omega), if_neg (by omega), e1, e2, if_pos (by omega), if_pos (by omega), if_pos (by rw [List.length_map, List.length_range]; omega), List.range_succ, List.map_append]
    rfl
theorem l3Edges_tells {l : List S25} (hl : l.length ≤ 1100000) : Geo.Ev (fun k => spec_l3Edges.f k l) (edg l) := l3Edges_loop hl l.length 0 (by omega)

def sq (L : List Geo.P) (i j : Nat) : Bool := decide ((j + 1) % L.length = i) || !Geo.meet0 (Geo.pt L i) (Geo.pt L (i + 1)) (Geo.pt L j) (Geo.pt L (j + 1))
def sr (L : List Geo.P) (i : Nat) : Bool := (!Geo.has0 (Geo.pt L i) (Geo.pt L (i + 1)) (Geo.pt L (i + 2)) && !Geo.has0 (Geo.pt L (i + 1)) (Geo.pt L (i + 2)) (Geo.pt L i)) && (List.range' (i + 2) (L.length - (i + 2))).all (sq L i)
section
variable {l : List S25}
theorem sLoopOk_l2 (hl : l.length ≤ 8) (hok : ∀ i, Geo.ok (Geo.pt (l.map tp) i) = true) {i : Nat} (hi : i < l.length) {v : Bool} (hv : Geo.Ev (fun k => spec_LoopOk.l1 k (l.length : Int) (edg l) ((i + 1 : Nat) : Int)) v) :
    ∀ (m j : Nat), m = l.length - j → j ≤ 10 → Geo.Ev (fun k => spec_LoopOk.l2 k (l.length : Int) (edg l) (i : Int) (j : Int)) ((List.range' j m).all (sq (l.map tp) i) && v)
  | 0, j, h, _ => by
    have e1 : wrap64 ((i : Int) + 1) = ((i + 1 : Nat) : Int) := Geo.w64 (by omega) (by omega)
    refine Geo.Ev.step (Geo.Ev.val hv (by simp)) fun k => ?_
    rw [spec_LoopOk.l2, if_neg (by omega), e1]
  | m + 1, j, h, hj => by
    have ih := sLoopOk_l2 hl hok hi hv m (j + 1) (by omega) (by omega)
    have e1 : wrap64 ((j : Int) + 1) = ((j + 1 : Nat) : Int) := Geo.w64 (by omega) (by omega)
    have e2 : Int.tmod ((j + 1 : Nat) : Int) (l.length : Int) = (((j + 1) % l.length : Nat) : Int) := (Int.ofNat_tmod _ _).symm
    have hlen : (l.map tp).length = l.length := List.length_map _
    rw [List.range'_succ, List.all_cons]
    by_cases c : (j + 1) % l.length = i
    · refine Geo.Ev.step (Geo.Ev.val ih (by rw [sq, hlen, decide_eq_true c]; simp)) fun k => ?_
      rw [spec_LoopOk.l2, if_pos (by omega), if_neg (by omega), e1, e2, if_pos (by omega)]
    · have hm : ∀ k, spec_LoopOk.l2 (k + 1) (l.length : Int) (edg l) (i : Int) (j : Int) = if Geo.meet0 (Geo.pt (l.map tp) i) (Geo.pt (l.map tp) (i + 1)) (Geo.pt (l.map tp) j) (Geo.pt (l.map tp) (j + 1)) = true then some false else spec_LoopOk.l2 k (l.length : Int) (edg l) (i : Int) ((j + 1 : Nat) : Int) := fun k => by
        have hj' : j < l.length := by omega
        rw [spec_LoopOk.l2, if_pos (by omega), if_neg (by omega), e1, e2, if_neg (by omega), if_pos (by omega), if_pos (by rw [edg_len]; omega), if_pos (by omega), if_pos (by rw [edg_len]; omega),
          l2Meet_tells (show Geo.ok (tp (rd_T35 (edg l) (i : Int)).f0) = true by rw [edg_a hi]; exact hok _) (show Geo.ok (tp (rd_T35 (edg l) (i : Int)).f1) = true by rw [edg_b hi]; exact hok _) (show Geo.ok (tp (rd_T35 (edg l) (j : Int)).f0) = true by rw [edg_a hj']; exact hok _) (show Geo.ok (tp (rd_T35 (edg l) (j : Int)).f1) = true by rw [edg_b hj']; exact hok _), Option.bind_some]
        rw [show Geo.meet0 ((rd_T35 (edg l) (i : Int)).f0.f0, (rd_T35 (edg l) (i : Int)).f0.f1) ((rd_T35 (edg l) (i : Int)).f1.f0, (rd_T35 (edg l) (i : Int)).f1.f1) ((rd_T35 (edg l) (j : Int)).f0.f0, (rd_T35 (edg l) (j : Int)).f0.f1) ((rd_T35 (edg l) (j : Int)).f1.f0, (rd_T35 (edg l) (j : Int)).f1.f1) = Geo.meet0 (tp (rd_T35 (edg l) (i : Int)).f0) (tp (rd_T35 (edg l) (i : Int)).f1) (tp (rd_T35 (edg l) (j : Int)).f0) (tp (rd_T35 (edg l) (j : Int)).f1) from rfl, edg_a hi, edg_b hi, edg_a hj', edg_b hj']
      cases hb : Geo.meet0 (Geo.pt (l.map tp) i) (Geo.pt (l.map tp) (i + 1)) (Geo.pt (l.map tp) j) (Geo.pt (l.map tp) (j + 1))
      · refine Geo.Ev.step (Geo.Ev.val ih (by rw [sq, hb]; simp)) fun k => ?_
        rw [hm, hb]; rfl
      · refine Geo.Ev.step (Geo.Ev.const (o := some false) (by rw [sq, hlen, decide_eq_false c, hb]; rfl)) fun k => ?_
        rw [hm, hb]; rfl
theorem sLoopOk_l1 (hl : l.length ≤ 8) (hok : ∀ i, Geo.ok (Geo.pt (l.map tp) i) = true) : ∀ (m i : Nat), i + m = l.length →
    Geo.Ev (fun k => spec_LoopOk.l1 k (l.length : Int) (edg l) (i : Int)) ((List.range' i m).all (sr (l.map tp)))
  | 0, i, h => by
    refine Geo.Ev.step (Geo.Ev.const (o := some true) rfl) fun k => ?_
    rw [spec_LoopOk.l1, if_neg (by omega)]
  | m + 1, i, h => by
    have ih := sLoopOk_l1 hl hok m (i + 1) (by omega)
    have hi : i < l.length := by omega
    have h2 := sLoopOk_l2 hl hok hi ih (l.length - (i + 2)) (i + 2) rfl (by omega)
    have e1 : wrap64 ((i : Int) + 1) = ((i + 1 : Nat) : Int) := Geo.w64 (by omega) (by omega)
    have e3 : wrap64 ((i : Int) + 2) = ((i + 2 : Nat) : Int) := Geo.w64 (by omega) (by omega)
    have e2 : Int.tmod ((i + 1 : Nat) : Int) (l.length : Int) = (((i + 1) % l.length : Nat) : Int) := (Int.ofNat_tmod _ _).symm
    have hlen : (l.map tp).length = l.length := List.length_map _
    have hj' : (i + 1) % l.length < l.length := Nat.mod_lt _ (by omega)
    have pa : Geo.pt (l.map tp) ((i + 1) % l.length) = Geo.pt (l.map tp) (i + 1) := by rw [← hlen, Geo.pt_mod]
    have pb : Geo.pt (l.map tp) ((i + 1) % l.length + 1) = Geo.pt (l.map tp) (i + 2) := by rw [← hlen, Geo.pt_mod_add]
    have oa := hok i
    have ob := hok (i + 1)
    have oc := hok (i + 2)
    rw [← edg_a hi] at oa
    have ob2 := ob
    rw [← edg_b hi] at ob
    rw [← pa, ← edg_a hj'] at ob2
    rw [← pb, ← edg_b hj'] at oc
    have hm : ∀ k, spec_LoopOk.l1 (k + 1) (l.length : Int) (edg l) (i : Int) = if Geo.has0 (Geo.pt (l.map tp) i) (Geo.pt (l.map tp) (i + 1)) (Geo.pt (l.map tp) (i + 2)) = true then spec_LoopOk.j2 k (l.length : Int) (edg l) (i : Int) true
        else spec_LoopOk.j2 k (l.length : Int) (edg l) (i : Int) (Geo.has0 (Geo.pt (l.map tp) (i + 1)) (Geo.pt (l.map tp) (i + 2)) (Geo.pt (l.map tp) i)) := fun k => by
      rw [spec_LoopOk.l1, if_pos (by omega), if_pos (by omega), if_pos (by rw [edg_len]; omega), if_neg (by omega), e1, e2, if_pos (by omega), if_pos (by rw [edg_len]; omega), l2Has_tells oa ob oc, Option.bind_some, l2Has_tells ob2 oc oa, Option.bind_some]
      rw [← pa, ← pb, ← edg_a hi, ← edg_a hj', ← edg_b hj']
      rw [show Geo.has0 (tp (rd_T35 (edg l) (i : Int)).f0) (tp (rd_T35 (edg l) (((i + 1) % l.length : Nat) : Int)).f0) (tp (rd_T35 (edg l) (((i + 1) % l.length : Nat) : Int)).f1) = Geo.has0 (tp (rd_T35 (edg l) (i : Int)).f0) (tp (rd_T35 (edg l) (i : Int)).f1) (tp (rd_T35 (edg l) (((i + 1) % l.length : Nat) : Int)).f1) by rw [edg_a hj', pa, ← edg_b hi]]
      rfl
    have hj : ∀ b k, spec_LoopOk.j2 (k + 1) (l.length : Int) (edg l) (i : Int) b = if b = true then some false else spec_LoopOk.l2 k (l.length : Int) (edg l) (i : Int) ((i + 2 : Nat) : Int) := fun b k => by rw [spec_LoopOk.j2, e3]
    have hb0 : Geo.Ev (fun k => spec_LoopOk.j2 k (l.length : Int) (edg l) (i : Int) true) false := Geo.Ev.step (Geo.Ev.const (o := some false) rfl) fun k => hj true k
    have hb1 : Geo.Ev (fun k => spec_LoopOk.j2 k (l.length : Int) (edg l) (i : Int) false) _ := Geo.Ev.step h2 fun k => hj false k
    rw [List.range'_succ, List.all_cons]
    cases c1 : Geo.has0 (Geo.pt (l.map tp) i) (Geo.pt (l.map tp) (i + 1)) (Geo.pt (l.map tp) (i + 2))
    · cases c2 : Geo.has0 (Geo.pt (l.map tp) (i + 1)) (Geo.pt (l.map tp) (i + 2)) (Geo.pt (l.map tp) i)
      · refine Geo.Ev.step (Geo.Ev.val hb1 (by rw [sr, c1, c2, hlen]; simp)) fun k => ?_
        rw [hm, c1, c2]; rfl
      · refine Geo.Ev.step (Geo.Ev.val hb0 (by rw [sr, c1, c2]; simp)) fun k => ?_
        rw [hm, c1, c2]; rfl
    · refine Geo.Ev.step (Geo.Ev.val hb0 (by rw [sr, c1]; simp)) fun k => ?_
      rw [hm, c1]; rfl
theorem sLoopOk_l0 (hl : l.length ≤ 8) {v : Bool} (hv : (∀ j, j < l.length → Geo.segOk (Geo.pt (l.map tp) j) (Geo.pt (l.map tp) (j + 1)) = true) → Geo.Ev (fun k => spec_LoopOk.l1 k (l.length : Int) (edg l) 0) v) : ∀ (m i : Nat), i + m = l.length → (∀ j, j < i → Geo.segOk (Geo.pt (l.map tp) j) (Geo.pt (l.map tp) (j + 1)) = true) →
    Geo.Ev (fun k => spec_LoopOk.l0 k (l.length : Int) (edg l) (i : Int)) ((List.range' i m).all (fun i => Geo.segOk (Geo.pt (l.map tp) i) (Geo.pt (l.map tp) (i + 1))) && v)
  | 0, i, h, hs => by
    refine Geo.Ev.step (Geo.Ev.val (hv (fun j hj => hs j (by omega))) (by simp)) fun k => ?_
    rw [spec_LoopOk.l0, if_neg (by omega)]
  | m + 1, i, h, hs => by
    have hi : i < l.length := by omega
    have e1 : wrap64 ((i : Int) + 1) = ((i + 1 : Nat) : Int) := Geo.w64 (by omega) (by omega)
    have hm : ∀ k, spec_LoopOk.l0 (k + 1) (l.length : Int) (edg l) (i : Int) = if Geo.segOk (Geo.pt (l.map tp) i) (Geo.pt (l.map tp) (i + 1)) = true then spec_LoopOk.l0 k (l.length : Int) (edg l) ((i + 1 : Nat) : Int) else some false := fun k => by
      rw [spec_LoopOk.l0, if_pos (by omega), if_pos (by omega), if_pos (by rw [edg_len]; omega), sSegOk_tells, Option.bind_some, e1, ← edg_a hi, ← edg_b hi]
      rfl
    rw [List.range'_succ, List.all_cons]
    cases c : Geo.segOk (Geo.pt (l.map tp) i) (Geo.pt (l.map tp) (i + 1))
    · refine Geo.Ev.step (Geo.Ev.const (o := some false) (by simp)) fun k => ?_
      rw [hm, c]; rfl
    · have ih := sLoopOk_l0 hl hv m (i + 1) (by omega) (fun j hj => by
        rcases Nat.lt_or_ge j i with h1 | h1
        · exact hs j h1
        · rw [show j = i by omega]; exact c)
      refine Geo.Ev.step (Geo.Ev.val ih (by simp)) fun k => ?_
      rw [hm, c]; rfl
end
theorem sLoopOk_tells (l : List S25) : Geo.Ev (fun k => spec_LoopOk.f k l) (Geo.loopOk (l.map tp)) := by
  have hlen : (l.map tp).length = l.length := List.length_map _
  unfold spec_LoopOk.f
  simp only [l6In_tells, Option.bind_some]
  by_cases h3 : 3 ≤ l.length
  · by_cases h8 : l.length ≤ 8
    · have c1 : decide ((3 : Int) ≤ (l.length : Int)) = true := decide_eq_true (by omega)
      have c2 : decide ((l.length : Int) ≤ 8) = true := decide_eq_true (by omega)
      rw [c1, c2]
      refine Geo.Ev.bind (l3Edges_tells (by omega)) ?_
      refine (sLoopOk_l0 (v := (List.range' 0 l.length).all (sr (l.map tp))) h8 (fun hs => ?_) l.length 0 (by omega) (fun j hj => by omega)).val ?_
      · refine sLoopOk_l1 h8 (fun i => ?_) l.length 0 (by omega)
        have := hs (i % l.length) (Nat.mod_lt _ (by omega))
        rw [Geo.segOk_iff, ← hlen, Geo.pt_mod] at this
        exact this.1
      · rw [Bool.eq_iff_iff, Geo.loopOk_iff, Bool.and_eq_true, List.all_eq_true, List.all_eq_true]
        constructor
        · rintro ⟨h1, h2⟩
          have sg : ∀ i, i < l.length → Geo.segOk (Geo.pt (l.map tp) i) (Geo.pt (l.map tp) (i + 1)) = true := fun i hi => h1 i (by simp; exact hi)
          have oks : ∀ i, Geo.segOk (Geo.pt (l.map tp) i) (Geo.pt (l.map tp) (i + 1)) = true := fun i => by
            have := sg (i % l.length) (Nat.mod_lt _ (by omega))
            rwa [← hlen, Geo.pt_mod, Geo.pt_mod_add] at this
          have ok : ∀ i, Geo.ok (Geo.pt (l.map tp) i) = true := fun i => ((Geo.segOk_iff _ _).1 (oks i)).1
          have r : ∀ i, i < l.length → sr (l.map tp) i = true := fun i hi => h2 i (by simp; exact hi)
          refine Geo.loop_of (by rw [hlen]; exact h3) (by rw [hlen]; exact h8) (fun i hi => ?_) (fun i hi => ?_) (fun i hi => ?_) (fun i k hik hk h4 h5 => ?_) <;> rw [hlen] at *
          · exact oks i
          · have := r i hi
            simp only [sr, Bool.and_eq_true, Bool.not_eq_true'] at this
            unfold Geo.has; rw [this.1.1]; simp
          · have := r i hi
            simp only [sr, Bool.and_eq_true, Bool.not_eq_true'] at this
            unfold Geo.has; rw [this.1.2]; simp
          · have := r i (by omega)
            simp only [sr, Bool.and_eq_true, List.all_eq_true] at this
            have := this.2 k (by rw [List.mem_range'_1, List.length_map]; omega)
            simp only [sq, Bool.or_eq_true, decide_eq_true_eq, Bool.not_eq_true'] at this
            rcases this with e | e
            · rw [List.length_map] at e
              exfalso
              by_cases e2 : k + 1 < l.length
              · rw [Nat.mod_eq_of_lt e2] at e; omega
              · rw [show k + 1 = l.length by omega, Nat.mod_self] at e; exact h5 ⟨e.symm, by omega⟩
            · unfold Geo.meet; rw [e]; simp
        · intro L
          refine ⟨fun i hi => L.seg i, fun i hi => ?_⟩
          have hi' : i < l.length := by simpa using hi
          have f1 := L.fore i
          have f2 := L.back i
          have ok := L.ok
          have s1 := L.seg i
          have s2 := L.seg (i + 1)
          unfold Geo.has at f1 f2
          rw [s1, ok (i + 2)] at f1
          rw [show Geo.segOk (Geo.pt (l.map tp) (i + 1)) (Geo.pt (l.map tp) (i + 2)) = true from s2, ok i] at f2
          simp only [Bool.true_and] at f1 f2
          simp only [sr, f1, f2, Bool.not_false, Bool.true_and, List.all_eq_true, List.mem_range'_1, hlen]
          intro j hj
          simp only [sq, Bool.or_eq_true, decide_eq_true_eq, Bool.not_eq_true', hlen]
          by_cases e : (j + 1) % l.length = i
          · exact .inl e
          · right
            have := L.apart i j (by rw [hlen, Nat.mod_eq_of_lt hi', Nat.mod_eq_of_lt (by omega)]; omega) (by rw [hlen, Nat.mod_eq_of_lt (by omega), Nat.mod_eq_of_lt (by omega)]; omega) (by rw [hlen, Nat.mod_eq_of_lt hi']; exact e)
            unfold Geo.meet at this
            rw [s1, L.seg j] at this
            simpa using this
    · have c2 : decide ((l.length : Int) ≤ 8) = false := decide_eq_false (by omega)
      rw [c2, Bool.and_false]
      refine Geo.Ev.const ?_
      rw [Geo.loopOk_not (fun L => by have := L.hi; omega)]
  · have c1 : decide ((3 : Int) ≤ (l.length : Int)) = false := decide_eq_false (by omega)
    rw [c1, Bool.false_and]
    refine Geo.Ev.const ?_
    rw [Geo.loopOk_not (fun L => by have := L.lo; omega)]

theorem i_on {l : List S25} (x y : Int) : (Edges.upto l l.length).any (impl_insideOf.on x y) = Geo.on (l.map tp) (x, y) := by
  rw [Bool.eq_iff_iff, List.any_eq_true, Geo.on, List.any_eq_true, List.length_map]
  have h : ∀ i, i < l.length → impl_insideOf.on x y (Edges.at_ l i) = Geo.has (Geo.pt (l.map tp) i) (Geo.pt (l.map tp) (i + 1)) (x, y) := fun i hi => by
    rw [pt_tp hi, pt_rd l (i + 1)]; rfl
  constructor
  · rintro ⟨e, he, hp⟩
    obtain ⟨i, hi, rfl⟩ := List.mem_map.1 he
    exact ⟨i, hi, by rw [← h i (List.mem_range.1 hi)]; exact hp⟩
  · rintro ⟨i, hi, hp⟩
    exact ⟨_, List.mem_map.2 ⟨i, hi, rfl⟩, by rw [h i (List.mem_range.1 hi)]; exact hp⟩
theorem i_win {l : List S25} (L : Geo.Loop (l.map tp)) {x y : Int} (hp : Geo.ok (x, y) = true) : ∀ m, m ≤ l.length → (Edges.upto l m).foldl (impl_insideOf.step x y) (-1) = Geo.win (l.map tp) (x, y) m
  | 0, _ => rfl
  | m + 1, h => by
    rw [upto_fold, i_win L hp m (by omega), Geo.win, impl_insideOf.step]
    have hc : impl_insideOf.cut x y (Edges.at_ l m) = Geo.cut (Geo.pt (l.map tp) m) (Geo.pt (l.map tp) (m + 1)) (x, y) := by
      rw [Geo.cut_turn (L.ok m) (L.ok (m + 1)) hp, pt_tp (by omega), pt_rd l (m + 1)]; rfl
    rw [hc]
    have w1 : wrap64 (-1) = -1 := Geo.w64 (by omega) (by omega)
    have w2 : wrap64 (- -1) = - -1 := Geo.w64 (by omega) (by omega)
    rcases Geo.win_cases (l.map tp) (x, y) m with e | e <;> rw [e]
    · rw [w1]
    · rw [w2]
theorem iInside_tells {l : List S25} (L : Geo.Loop (l.map tp)) {x y : Int} (hp : Geo.ok (x, y) = true) : impl_insideOf.f l x y = some (Geo.inside (l.map tp) (x, y)) := by
  unfold impl_insideOf.f
  rw [i_on, i_win L hp l.length (Nat.le_refl _), Geo.inside, List.length_map]

theorem l3In_loop {l : List S25} (L : Geo.Loop (l.map tp)) {x y : Int} (hp : Geo.ok (x, y) = true) : ∀ (m i : Nat), i + m = l.length →
    Geo.Ev (fun k => spec_l3In.l0 k (Geo.win (l.map tp) (x, y) i) (edg l) (i : Int) x y) (if (List.range' i m).any (fun i => Geo.has0 (Geo.pt (l.map tp) i) (Geo.pt (l.map tp) (i + 1)) (x, y)) = true then 0 else Geo.win (l.map tp) (x, y) l.length)
  | 0, i, h => by
    refine Geo.Ev.step (Geo.Ev.const (o := some (Geo.win (l.map tp) (x, y) l.length)) rfl) fun k => ?_
    rw [spec_l3In.l0, if_neg (by rw [edg_len]; omega), show i = l.length by omega]
  | m + 1, i, h => by
    have hi : i < l.length := by omega
    have h8 := L.hi
    rw [List.length_map] at h8
    have ih := l3In_loop L hp m (i + 1) (by omega)
    have e1 : wrap64 ((i : Int) + 1) = ((i + 1 : Nat) : Int) := Geo.w64 (by omega) (by omega)
    have oa := L.ok i
    have ob := L.ok (i + 1)
    have wn : wrap64 (-Geo.win (l.map tp) (x, y) i) = -Geo.win (l.map tp) (x, y) i := by
      rcases Geo.win_cases (l.map tp) (x, y) i with e | e <;> rw [e]
      · exact Geo.w64 (by omega) (by omega)
      · exact Geo.w64 (by omega) (by omega)
    have hm : ∀ k, spec_l3In.l0 (k + 1) (Geo.win (l.map tp) (x, y) i) (edg l) (i : Int) x y = if Geo.has0 (Geo.pt (l.map tp) i) (Geo.pt (l.map tp) (i + 1)) (x, y) = true then some 0 else spec_l3In.l0 k (Geo.win (l.map tp) (x, y) (i + 1)) (edg l) ((i + 1 : Nat) : Int) x y := fun k => by
      rw [Geo.win]
      rw [← edg_a hi] at oa ⊢
      rw [← edg_b hi] at ob ⊢
      rw [spec_l3In.l0, if_pos (by rw [edg_len]; omega), if_pos (by omega), l2Has_tells oa ob hp, Option.bind_some, e1, wn, l2Cross_tells oa ob hp, l2Cross_tells ob oa hp, Option.bind_some, Option.bind_some]
      generalize rd_T35 (edg l) (i : Int) = s
      show (if Geo.has0 (tp s.f0) (tp s.f1) (x, y) = true then _ else _) = _
      have fl : Geo.cross (tp s.f1) (tp s.f0) (x, y) = -Geo.cross (tp s.f0) (tp s.f1) (x, y) := Geo.cross_flip _ _ _
      by_cases c0 : Geo.has0 (tp s.f0) (tp s.f1) (x, y) = true
      · rw [if_pos c0, if_pos c0]
      rw [if_neg c0, if_neg c0]
      show (if s.f0.f1 > s.f1.f1 then (if s.f1.f1 ≤ y then (if y < s.f0.f1 then (if Geo.cross (tp s.f1) (tp s.f0) (x, y) > 0 then _ else _) else _) else _) else (if s.f0.f1 ≤ y then (if y < s.f1.f1 then (if Geo.cross (tp s.f0) (tp s.f1) (x, y) > 0 then _ else _) else _) else _)) = _
      rw [fl]
      have hc : Geo.cut (tp s.f0) (tp s.f1) (x, y) = true ↔ (s.f0.f1 ≤ y ∧ y < s.f1.f1 ∧ 0 < Geo.cross (tp s.f0) (tp s.f1) (x, y)) ∨ (s.f1.f1 ≤ y ∧ y < s.f0.f1 ∧ Geo.cross (tp s.f0) (tp s.f1) (x, y) < 0) := by
        unfold Geo.cut; simp only [Bool.or_eq_true, Bool.and_eq_true, decide_eq_true_eq]; exact Iff.rfl
      generalize Geo.cross (tp s.f0) (tp s.f1) (x, y) = q at *
      by_cases d1 : s.f0.f1 > s.f1.f1
      · rw [if_pos d1]
        by_cases d2 : s.f1.f1 ≤ y
        · rw [if_pos d2]
          by_cases d3 : y < s.f0.f1
          · rw [if_pos d3]
            by_cases d4 : -q > 0
            · rw [if_pos d4, if_pos (hc.2 (.inr ⟨d2, d3, by omega⟩))]
            · rw [if_neg d4, if_neg (fun e => by have := hc.1 e; omega)]
          · rw [if_neg d3, if_neg (fun e => by have := hc.1 e; omega)]
        · rw [if_neg d2, if_neg (fun e => by have := hc.1 e; omega)]
      · rw [if_neg d1]
        by_cases d2 : s.f0.f1 ≤ y
        · rw [if_pos d2]
          by_cases d3 : y < s.f1.f1
          · rw [if_pos d3]
            by_cases d4 : q > 0
            · rw [if_pos d4, if_pos (hc.2 (.inl ⟨d2, d3, by omega⟩))]
            · rw [if_neg d4, if_neg (fun e => by have := hc.1 e; omega)]
          · rw [if_neg d3, if_neg (fun e => by have := hc.1 e; omega)]
        · rw [if_neg d2, if_neg (fun e => by have := hc.1 e; omega)]
    rw [List.range'_succ, List.any_cons]
    cases c : Geo.has0 (Geo.pt (l.map tp) i) (Geo.pt (l.map tp) (i + 1)) (x, y)
    · refine Geo.Ev.step (Geo.Ev.val ih (by rw [Bool.false_or])) fun k => ?_
      rw [hm, c]; rfl
    · refine Geo.Ev.step (Geo.Ev.const (o := some 0) (by rw [Bool.true_or, if_pos rfl])) fun k => ?_
      rw [hm, c]; rfl
theorem l3In_tells {l : List S25} (L : Geo.Loop (l.map tp)) {x y : Int} (hp : Geo.ok (x, y) = true) : Geo.Ev (fun k => spec_l3In.f k l x y) (Geo.inside (l.map tp) (x, y)) := by
  have h8 := L.hi
  rw [List.length_map] at h8
  refine Geo.Ev.bind (l3Edges_tells (by omega)) ((l3In_loop L hp l.length 0 (by omega)).val ?_)
  unfold Geo.inside
  have e : (List.range' 0 l.length).any (fun i => Geo.has0 (Geo.pt (l.map tp) i) (Geo.pt (l.map tp) (i + 1)) (x, y)) = Geo.on (l.map tp) (x, y) := by
    rw [Geo.on, List.length_map, List.range_eq_range']
    congr 1; funext i
    unfold Geo.has; rw [L.seg i, hp]; rfl
  rw [e, List.length_map]

theorem ev_mono {α : Type} {f : Nat → Option α} (hm : ∀ k, LeO (f k) (f (k + 1))) {k0 : Nat} {v : α} (h : f k0 = some v) : Geo.Ev f v := by
  refine ⟨k0, fun k hk => ?_⟩
  obtain ⟨d, rfl⟩ := Nat.exists_eq_add_of_le hk
  clear hk
  induction d with
  | zero => exact h
  | succ d ih => exact hm _ _ ih
def BoxGood (p : Int) (o : Option (List S25 × Int)) : Prop := ∃ l, o = some (l, p) ∧ 3 ≤ l.length ∧ l.length ≤ 6
theorem boxGood_ite {p : Int} {c : Prop} [Decidable c] {a b : Option (List S25 × Int)} (h1 : c → BoxGood p a) (h2 : ¬c → BoxGood p b) : BoxGood p (if c then a else b) := by
  by_cases h : c
  · rw [if_pos h]; exact h1 h
  · rw [if_neg h]; exact h2 h
theorem l71Box_tells (k : Nat) {b : List Int} {p m : Int} (h : Geo.Rdr b p m) (hm : m ≤ 900000) (x y w v : Int) :
    ∃ l, spec_l71Box.f (k + 1) b p x y w v = some (l, p + 1) ∧ 3 ≤ l.length ∧ l.length ≤ 6 := by
  obtain ⟨c, e1, _, _⟩ := pick_at k h (by omega) (show (1 : Int) ≤ 7 by omega) (by omega)
  show BoxGood (p + 1) (spec_l71Box.f (k + 1) b p x y w v)
  unfold spec_l71Box.f
  simp only [Option.bind_some, e1]
  repeat' (refine boxGood_ite (fun _ => ?_) (fun _ => ?_))
  all_goals first
    | exact ⟨_, rfl, by simp, by simp⟩
    | (exfalso; rename_i h; exact h (by simp))

theorem l71Loop_loop {b : List Int} : ∀ (n : Nat) (l : List S25) (p m : Int), Geo.Rdr b p m → m + 4 * n ≤ 900000 → n ≤ 10 → 3 ≤ l.length → l.length ≤ 6 →
    ∃ l' q, Geo.Ev (fun k => spec_l71Loop.l0 k l ((n : Int) - 1) b p) (l', q) ∧ l'.length = l.length ∧ Geo.Rdr b q (m + 4 * n)
  | 0, l, p, m, h, _, _, _, _ => by
    refine ⟨l, p, Geo.Ev.step (Geo.Ev.const (o := some (l, p)) rfl) fun k => ?_, rfl, h.up h.lo (by have := h.hi; omega)⟩
    rw [spec_l71Loop.l0, if_neg (by omega)]
  | n + 1, l, p, m, h, hm, hn, h3, h6 => by
    obtain ⟨x, y, q, e1, _, _, hq⟩ := l71Pt_tells 0 h (by omega)
    have hp : Geo.Ev (fun k => spec_l71Pt.f k b p) (x, y, q) := ev_mono (f := fun k => spec_l71Pt.f k _ _) (fun k => spec_l71Pt.mono _ _ _) e1
    have e2 : Int.tmod (n : Int) (l.length : Int) = ((n % l.length : Nat) : Int) := (Int.ofNat_tmod _ _).symm
    have hlt : n % l.length < l.length := Nat.mod_lt _ (by omega)
    obtain ⟨l', q', h1, h2, h4⟩ := l71Loop_loop n (l.set (n % l.length) ⟨x, y⟩) q (m + 4) hq (by omega) (by omega) (by rw [List.length_set]; omega) (by rw [List.length_set]; omega)
    refine ⟨l', q', Geo.Ev.step (g := fun k => (spec_l71Pt.f k b p).bind fun t => spec_l71Loop.l0 k (l.set (n % l.length) ⟨t.1, t.2.1⟩) ((n : Int) - 1) b t.2.2) (Geo.Ev.bind hp h1) fun k => ?_, by rw [h2, List.length_set], by rw [show m + 4 * ((n + 1 : Nat) : Int) = m + 4 + 4 * (n : Int) by omega]; exact h4⟩
    have e3 : wrap64 ((n : Int) - 1) = (n : Int) - 1 := Geo.w64 (by omega) (by omega)
    rw [spec_l71Loop.l0, show ((n + 1 : Nat) : Int) - 1 = (n : Int) by omega, if_pos (by omega), if_neg (by omega), e2, e3]
    simp only [if_pos (show (0 : Int) ≤ ((n % l.length : Nat) : Int) by omega), if_pos (show ((n % l.length : Nat) : Int) < (l.length : Int) by omega), Int.toNat_natCast]
theorem l71Loop_tells {b : List Int} {p m : Int} (h : Geo.Rdr b p m) (hm : m ≤ 500000) :
    ∃ l q, Geo.Ev (fun k => spec_l71Loop.f k b p) (l, q) ∧ 3 ≤ l.length ∧ l.length ≤ 7 ∧ Geo.Rdr b q (m + 40) := by
  have lo := h.lo
  have hi := h.hi
  obtain ⟨v1, f1, a1, b1⟩ := pick_at 0 h (by omega) (show (1 : Int) ≤ 5 by omega) (by omega)
  obtain ⟨v2, f2, a2, b2⟩ := pick_at 0 (h.up (q := p + 1) (n := m + 1) (by omega) (by omega)) (by omega) (show (1 : Int) ≤ 5 by omega) (by omega)
  obtain ⟨v3, f3, a3, b3⟩ := pick_at 0 (h.up (q := p + 1 + 1) (n := m + 2) (by omega) (by omega)) (by omega) (show (1 : Int) ≤ 9 - v1 by omega) (by omega)
  obtain ⟨v4, f4, a4, b4⟩ := pick_at 0 (h.up (q := p + 1 + 1 + 1) (n := m + 3) (by omega) (by omega)) (by omega) (show (1 : Int) ≤ 9 - v2 by omega) (by omega)
  have w1 : wrap64 (9 - v1) = 9 - v1 := Geo.w64 (by omega) (by omega)
  have w2 : wrap64 (9 - v2) = 9 - v2 := Geo.w64 (by omega) (by omega)
  have w3 : wrap64 (1 + v3) = 1 + v3 := Geo.w64 (by omega) (by omega)
  have w4 : wrap64 (1 + v4) = 1 + v4 := Geo.w64 (by omega) (by omega)
  have h5 := h.up (q := p + 1 + 1 + 1 + 1) (n := m + 4) (by omega) (by omega)
  obtain ⟨l, f5, h3, h6⟩ := l71Box_tells 0 h5 (by omega) v1 v2 (1 + v3) (1 + v4)
  obtain ⟨v6, f6, a6, b6⟩ := pick_at 0 (h.up (q := p + 1 + 1 + 1 + 1 + 1) (n := m + 5) (by omega) (by omega)) (by omega) (show (1 : Int) ≤ 12 by omega) (by omega)
  have h7 := h.up (q := p + 1 + 1 + 1 + 1 + 1 + 1) (n := m + 6) (by omega) (by omega)
  have pk : ∀ {p' n v : Int}, spec_l6Rd_pick.f 1 b p' n = some (v, p' + 1) → Geo.Ev (fun k => spec_l6Rd_pick.f k b p' n) (v, p' + 1) := fun e => ev_mono (f := fun k => spec_l6Rd_pick.f k _ _ _) (fun k => spec_l6Rd_pick.mono _ _ _ _) e
  have bx : Geo.Ev (fun k => spec_l71Box.f k b (p + 1 + 1 + 1 + 1) v1 v2 (1 + v3) (1 + v4)) (l, p + 1 + 1 + 1 + 1 + 1) := ev_mono (f := fun k => spec_l71Box.f k _ _ _ _ _ _) (fun k => spec_l71Box.mono _ _ _ _ _ _ _) f5
  have go : ∀ l' q', Geo.Ev (fun k => if v6 = 0 then ((spec_l71Pt.f k b (p + 1 + 1 + 1 + 1 + 1 + 1)).bind fun bt324 => (if l.length < 8796093022208 then (some ((l ++ [(⟨bt324.1, bt324.2.1⟩ : S25)]), bt324.2.2)) else (none))) else (if v6 = 1 then ((spec_l6Rd_pick.f k b (p + 1 + 1 + 1 + 1 + 1 + 1) (l.length : Int)).bind fun bt330 => ((spec_l71Pt.f k b bt330.2).bind fun bt332 => (if 0 ≤ bt330.1 then (if bt330.1 < (l.length : Int) then (some ((l.set (bt330.1 : Int).toNat (⟨bt332.1, bt332.2.1⟩ : S25)), bt332.2.2)) else (none)) else (none)))) else (if v6 = 2 then ((spec_l6Rd_pick.f k b (p + 1 + 1 + 1 + 1 + 1 + 1) 6).bind fun bt336 => (spec_l71Loop.l0 k l bt336.1 b bt336.2)) else (some (l, p + 1 + 1 + 1 + 1 + 1 + 1))))) (l', q') →
      Geo.Ev (fun k => spec_l71Loop.f k b p) (l', q') := by
    intro l' q' hg
    unfold spec_l71Loop.f
    refine Geo.Ev.bind (pk f1) (Geo.Ev.bind (pk f2) ?_)
    simp only [w1, w2]
    refine Geo.Ev.bind (pk f3) (Geo.Ev.bind (pk f4) ?_)
    simp only [w3, w4]
    exact Geo.Ev.bind bx (Geo.Ev.bind (pk f6) hg)
  by_cases c0 : v6 = 0
  · obtain ⟨x, y, q, e1, _, _, hq⟩ := l71Pt_tells 0 h7 (by omega)
    have hp : Geo.Ev (fun k => spec_l71Pt.f k b (p + 1 + 1 + 1 + 1 + 1 + 1)) (x, y, q) := ev_mono (f := fun k => spec_l71Pt.f k _ _) (fun k => spec_l71Pt.mono _ _ _) e1
    refine ⟨l ++ [⟨x, y⟩], q, go _ _ ?_, by simp; omega, by simp; omega, hq.up hq.lo (by have := hq.hi; omega)⟩
    simp only [if_pos c0]
    exact Geo.Ev.bind hp (Geo.Ev.const (by rw [if_pos (by omega)]))
  by_cases c1 : v6 = 1
  · obtain ⟨v7, f7, a7, b7⟩ := pick_at 0 h7 (by omega) (show (1 : Int) ≤ (l.length : Int) by omega) (by omega)
    have h8 := h.up (q := p + 1 + 1 + 1 + 1 + 1 + 1 + 1) (n := m + 7) (by omega) (by omega)
    obtain ⟨x, y, q, e1, _, _, hq⟩ := l71Pt_tells 0 h8 (by omega)
    have hp : Geo.Ev (fun k => spec_l71Pt.f k b (p + 1 + 1 + 1 + 1 + 1 + 1 + 1)) (x, y, q) := ev_mono (f := fun k => spec_l71Pt.f k _ _) (fun k => spec_l71Pt.mono _ _ _) e1
    refine ⟨l.set v7.toNat ⟨x, y⟩, q, go _ _ ?_, by rw [List.length_set]; omega, by rw [List.length_set]; omega, hq.up hq.lo (by have := hq.hi; omega)⟩
    simp only [if_neg c0, if_pos c1]
    exact Geo.Ev.bind (pk f7) (Geo.Ev.bind hp (Geo.Ev.const (by rw [if_pos a7, if_pos b7])))
  by_cases c2 : v6 = 2
  · obtain ⟨v7, f7, a7, b7⟩ := pick_at 0 h7 (by omega) (show (1 : Int) ≤ 6 by omega) (by omega)
    have h8 := h.up (q := p + 1 + 1 + 1 + 1 + 1 + 1 + 1) (n := m + 7) (by omega) (by omega)
    obtain ⟨l', q, e1, e2, hq⟩ := l71Loop_loop (v7.toNat + 1) l (p + 1 + 1 + 1 + 1 + 1 + 1 + 1) (m + 7) h8 (by omega) (by omega) h3 h6
    rw [show ((v7.toNat + 1 : Nat) : Int) - 1 = v7 by omega] at e1
    refine ⟨l', q, go _ _ ?_, by omega, by omega, hq.up hq.lo (by have := hq.hi; omega)⟩
    simp only [if_neg c0, if_neg c1, if_pos c2]
    exact Geo.Ev.bind (pk f7) e1
  · refine ⟨l, p + 1 + 1 + 1 + 1 + 1 + 1, go _ _ ?_, by omega, by omega, h.up (by omega) (by omega)⟩
    simp only [if_neg c0, if_neg c1, if_neg c2]
    exact Geo.Ev.const rfl

theorem iLoopEdges_tells (l : List S25) : impl_LoopEdges.f l = some (if Geo.loopOk (l.map tp) = true then edg l else []) := by
  unfold impl_LoopEdges.f
  rw [iLoopOk_tells, Option.bind_some]
  have e : (Edges.upto l l.length).map impl_LoopEdges.to = edg l := by
    unfold Edges.upto edg; rw [List.map_map]; rfl
  rw [e]

def cell0 (a b : List Geo.P) (i j : Nat) : Bool := !Geo.meet0 (Geo.pt a i) (Geo.pt a (i + 1)) (Geo.pt b j) (Geo.pt b (j + 1))
def apart0 (a b : List Geo.P) : Bool := (List.range' 0 a.length).all fun i => (List.range' 0 b.length).all (cell0 a b i)
theorem apart0_iff {a b : List Geo.P} (ha : 0 < a.length) (hb : 0 < b.length) : apart0 a b = true ↔ Geo.Apart a b := by
  unfold apart0
  rw [List.all_eq_true]
  constructor
  · intro h i j
    have h1 := h (i % a.length) (by simp [List.mem_range', Nat.mod_lt _ ha])
    rw [List.all_eq_true] at h1
    have h2 := h1 (j % b.length) (by simp [List.mem_range', Nat.mod_lt _ hb])
    rw [cell0, Bool.not_eq_true', Geo.pt_mod, Geo.pt_mod, Geo.pt_mod_add, Geo.pt_mod_add] at h2
    exact h2
  · intro h i _
    rw [List.all_eq_true]
    intro j _
    rw [cell0, h i j]; rfl
theorem l11Apart_l1 {a b : List S25} (La : Geo.Loop (a.map tp)) (Lb : Geo.Loop (b.map tp)) {i : Nat} (hi : i < a.length) {v : Bool} (hv : Geo.Ev (fun k => spec_l11Apart.l0 k (edg a) (edg b) ((i + 1 : Nat) : Int)) v) :
    ∀ (m j : Nat), j + m = b.length → Geo.Ev (fun k => spec_l11Apart.l1 k (edg a) (edg b) (i : Int) (j : Int)) ((List.range' j m).all (cell0 (a.map tp) (b.map tp) i) && v)
  | 0, j, h => by
    have h8 := La.hi
    rw [List.length_map] at h8
    have e1 : wrap64 ((i : Int) + 1) = ((i + 1 : Nat) : Int) := Geo.w64 (by omega) (by omega)
    refine Geo.Ev.step (Geo.Ev.val hv (by simp)) fun k => ?_
    rw [spec_l11Apart.l1, if_neg (by rw [edg_len]; omega), e1]
  | m + 1, j, h => by
    have h8 := Lb.hi
    rw [List.length_map] at h8
    have ih := l11Apart_l1 La Lb hi hv m (j + 1) (by omega)
    have e1 : wrap64 ((j : Int) + 1) = ((j + 1 : Nat) : Int) := Geo.w64 (by omega) (by omega)
    have hj : j < b.length := by omega
    rw [List.range'_succ, List.all_cons]
    have hm : ∀ k, spec_l11Apart.l1 (k + 1) (edg a) (edg b) (i : Int) (j : Int) = if Geo.meet0 (Geo.pt (a.map tp) i) (Geo.pt (a.map tp) (i + 1)) (Geo.pt (b.map tp) j) (Geo.pt (b.map tp) (j + 1)) = true then some false else spec_l11Apart.l1 k (edg a) (edg b) (i : Int) ((j + 1 : Nat) : Int) := fun k => by
      rw [spec_l11Apart.l1, if_pos (by rw [edg_len]; omega), if_pos (by omega), if_pos (by rw [edg_len]; omega), if_pos (by omega), e1,
        l2Meet_tells (show Geo.ok (tp (rd_T35 (edg a) (i : Int)).f0) = true by rw [edg_a hi]; exact La.ok _) (show Geo.ok (tp (rd_T35 (edg a) (i : Int)).f1) = true by rw [edg_b hi]; exact La.ok _) (show Geo.ok (tp (rd_T35 (edg b) (j : Int)).f0) = true by rw [edg_a hj]; exact Lb.ok _) (show Geo.ok (tp (rd_T35 (edg b) (j : Int)).f1) = true by rw [edg_b hj]; exact Lb.ok _), Option.bind_some]
      rw [show Geo.meet0 ((rd_T35 (edg a) (i : Int)).f0.f0, (rd_T35 (edg a) (i : Int)).f0.f1) ((rd_T35 (edg a) (i : Int)).f1.f0, (rd_T35 (edg a) (i : Int)).f1.f1) ((rd_T35 (edg b) (j : Int)).f0.f0, (rd_T35 (edg b) (j : Int)).f0.f1) ((rd_T35 (edg b) (j : Int)).f1.f0, (rd_T35 (edg b) (j : Int)).f1.f1) = Geo.meet0 (tp (rd_T35 (edg a) (i : Int)).f0) (tp (rd_T35 (edg a) (i : Int)).f1) (tp (rd_T35 (edg b) (j : Int)).f0) (tp (rd_T35 (edg b) (j : Int)).f1) from rfl, edg_a hi, edg_b hi, edg_a hj, edg_b hj]
    cases hb : Geo.meet0 (Geo.pt (a.map tp) i) (Geo.pt (a.map tp) (i + 1)) (Geo.pt (b.map tp) j) (Geo.pt (b.map tp) (j + 1))
    · refine Geo.Ev.step (Geo.Ev.val ih (by rw [cell0, hb]; simp)) fun k => ?_
      rw [hm, hb]; rfl
    · refine Geo.Ev.step (Geo.Ev.const (o := some false) (by rw [cell0, hb]; rfl)) fun k => ?_
      rw [hm, hb]; rfl
theorem l11Apart_l0 {a b : List S25} (La : Geo.Loop (a.map tp)) (Lb : Geo.Loop (b.map tp)) : ∀ (m i : Nat), i + m = a.length → Geo.Ev (fun k => spec_l11Apart.l0 k (edg a) (edg b) (i : Int)) ((List.range' i m).all fun i => (List.range' 0 b.length).all (cell0 (a.map tp) (b.map tp) i))
  | 0, i, h => by
    refine Geo.Ev.step (Geo.Ev.const (o := some true) rfl) fun k => ?_
    rw [spec_l11Apart.l0, if_neg (by rw [edg_len]; omega)]
  | m + 1, i, h => by
    have ih := l11Apart_l0 La Lb m (i + 1) (by omega)
    rw [List.range'_succ, List.all_cons]
    refine Geo.Ev.step (l11Apart_l1 La Lb (by omega) ih b.length 0 (by omega)) fun k => ?_
    rw [spec_l11Apart.l0, if_pos (by rw [edg_len]; omega)]; rfl
theorem l11Apart_tells {a b : List S25} (La : Geo.Loop (a.map tp)) (Lb : Geo.Loop (b.map tp)) : Geo.Ev (fun k => spec_l11Apart.f k a b) (apart0 (a.map tp) (b.map tp)) := by
  have h1 := La.hi
  have h2 := Lb.hi
  rw [List.length_map] at h1 h2
  unfold spec_l11Apart.f
  refine Geo.Ev.bind (l3Edges_tells (by omega)) (Geo.Ev.bind (l3Edges_tells (by omega)) ?_)
  have := l11Apart_l0 La Lb a.length 0 (by omega)
  rw [apart0, List.length_map, List.length_map]
  exact this

theorem insF_tells {l : List S25} (L : Geo.Loop (l.map tp)) {q : S25} (hq : Geo.ok (tp q) = true) : insF l q = Geo.inside (l.map tp) (tp q) := by
  unfold insF
  rw [iInside_tells L (x := q.f0) (y := q.f1) hq]; rfl
theorem hd0_tells {l : List S25} (h : 0 < l.length) : tp (hd0 l) = Geo.pt (l.map tp) 0 := by rw [pt_tp h]; rfl
theorem meets_tells {a b : List S25} (La : Geo.Loop (a.map tp)) (Lb : Geo.Loop (b.map tp)) : impl_ring_meets.any a b = false ↔ Geo.Apart (a.map tp) (b.map tp) := by
  have ha : 0 < a.length := by have := La.lo; rw [List.length_map] at this; omega
  have hb : 0 < b.length := by have := Lb.lo; rw [List.length_map] at this; omega
  have one : ∀ i j, i < a.length → j < b.length → impl_ring_meets.one (Edges.at_ a i) (Edges.at_ b j) = Geo.meet0 (Geo.pt (a.map tp) i) (Geo.pt (a.map tp) (i + 1)) (Geo.pt (b.map tp) j) (Geo.pt (b.map tp) (j + 1)) := fun i j hi hj => by
    have e : impl_ring_meets.one (Edges.at_ a i) (Edges.at_ b j) = Geo.meet (Geo.pt (a.map tp) i) (Geo.pt (a.map tp) (i + 1)) (Geo.pt (b.map tp) j) (Geo.pt (b.map tp) (j + 1)) := by
      rw [pt_tp hi, pt_rd a (i + 1), pt_tp hj, pt_rd b (j + 1)]; rfl
    have s1 : Geo.segOk (Geo.pt (a.map tp) i) (Geo.pt (a.map tp) (i + 1)) = true := La.seg i
    have s2 : Geo.segOk (Geo.pt (b.map tp) j) (Geo.pt (b.map tp) (j + 1)) = true := Lb.seg j
    rw [e, Geo.meet, s1, s2, Bool.true_and, Bool.true_and]
  unfold impl_ring_meets.any impl_ring_meets.row
  rw [← apart0_iff (by rw [List.length_map]; exact ha) (by rw [List.length_map]; exact hb)]
  unfold apart0 cell0
  rw [List.length_map, List.length_map, ← Bool.not_eq_true', Bool.not_eq_true', List.any_eq_false, List.all_eq_true]
  constructor
  · intro h i hi
    have hi' : i < a.length := by simpa [List.mem_range'] using hi
    rw [List.all_eq_true]
    intro j hj
    have hj' : j < b.length := by simpa [List.mem_range'] using hj
    have h1 := h (Edges.at_ a i) (List.mem_map.2 ⟨i, List.mem_range.2 hi', rfl⟩)
    rw [Bool.not_eq_true, List.any_eq_false] at h1
    have h2 := h1 (Edges.at_ b j) (List.mem_map.2 ⟨j, List.mem_range.2 hj', rfl⟩)
    rw [one i j hi' hj'] at h2
    simpa using h2
  · intro h x hx
    obtain ⟨i, hi, rfl⟩ := List.mem_map.1 hx
    have hi' := List.mem_range.1 hi
    rw [Bool.not_eq_true, List.any_eq_false]
    intro y hy
    obtain ⟨j, hj, rfl⟩ := List.mem_map.1 hy
    have hj' := List.mem_range.1 hj
    have h1 := h i (by simp [List.mem_range', hi'])
    rw [List.all_eq_true] at h1
    have h2 := h1 j (by simp [List.mem_range', hj'])
    rw [one i j hi' hj']
    simpa using h2

theorem rd_L4_el {l : List (List S25)} {i : Nat} (hi : i < l.length) : rd_L4 l (i : Int) = l[i] := by unfold rd_L4; rw [Int.toNat_natCast, List.getD_eq_getElem?_getD, List.getElem?_eq_getElem hi]; rfl
theorem plate_len {l : List S25} (L : Geo.Loop (l.map tp)) : 0 < l.length ∧ l.length ≤ 8 := by
  have h1 := L.lo
  have h2 := L.hi
  rw [List.length_map] at h1 h2; omega
/-- What is asked of a hole and the outer loop; of two holes. -/
noncomputable def holeB (o h : List S25) : Bool := Geo.loopOk (h.map tp) && (decide (Geo.inside (o.map tp) (Geo.pt (h.map tp) 0) = 1) && apart0 (o.map tp) (h.map tp))
noncomputable def pairB (h g : List S25) : Bool := apart0 (h.map tp) (g.map tp) && (decide (Geo.inside (g.map tp) (Geo.pt (h.map tp) 0) = -1) && decide (Geo.inside (h.map tp) (Geo.pt (g.map tp) 0) = -1))
theorem first_in {o h : List S25} (Lo : Geo.Loop (o.map tp)) (Lh : Geo.Loop (h.map tp)) : Geo.Ev (fun k => spec_l3In.f k o (rd_T25 h 0).f0 (rd_T25 h 0).f1) (Geo.inside (o.map tp) (Geo.pt (h.map tp) 0)) := by
  have e : Geo.pt (h.map tp) 0 = ((rd_T25 h 0).f0, (rd_T25 h 0).f1) := pt_tp (plate_len Lh).1
  rw [e]
  exact l3In_tells Lo (by rw [← e]; exact Lh.ok 0)
/-- One pair of holes. -/
theorem sPlate_pair {o : List S25} {hs : List (List S25)} {i j : Nat} {h g : List S25} (hi : i < 4) (hj : j < i) (hg : rd_L4 hs (j : Int) = g) (hlt : j < hs.length) (Lh : Geo.Loop (h.map tp)) (Lg : Geo.Loop (g.map tp)) {v : Bool}
    (hv : Geo.Ev (fun k => spec_PlateOk.l1 k (i : Int) h ((j + 1 : Nat) : Int) o hs) v) : Geo.Ev (fun k => spec_PlateOk.l1 k (i : Int) h (j : Int) o hs) (pairB h g && v) := by
  have e1 : wrap64 ((j : Int) + 1) = ((j + 1 : Nat) : Int) := Geo.w64 (by omega) (by omega)
  have ph := plate_len Lh
  have pg := plate_len Lg
  have st : ∀ k, spec_PlateOk.l1 (k + 1) (i : Int) h (j : Int) o hs = (spec_l11Apart.f k h g).bind fun t445 => if t445 = true then (spec_l3In.f k g (rd_T25 h 0).f0 (rd_T25 h 0).f1).bind fun t448 => if t448 = -1 then (spec_l3In.f k h (rd_T25 g 0).f0 (rd_T25 g 0).f1).bind fun t451 => if t451 = -1 then spec_PlateOk.l1 k (i : Int) h ((j + 1 : Nat) : Int) o hs else some false else some false else some false := fun k => by
    rw [spec_PlateOk.l1, if_pos (by omega), if_pos (by omega), if_pos (by omega), hg, e1]
    simp only [if_pos (show (0 : Int) < (h.length : Int) by omega), if_pos (show (0 : Int) < (g.length : Int) by omega)]
  refine Geo.Ev.step (Geo.Ev.bind (l11Apart_tells Lh Lg) ?_) st
  unfold pairB
  cases ha : apart0 (h.map tp) (g.map tp)
  · exact Geo.Ev.const rfl
  · simp only [if_true]
    refine Geo.Ev.bind (first_in Lg Lh) ?_
    by_cases c1 : Geo.inside (g.map tp) (Geo.pt (h.map tp) 0) = -1
    · simp only [if_pos c1]
      refine Geo.Ev.bind (first_in Lh Lg) ?_
      by_cases c2 : Geo.inside (h.map tp) (Geo.pt (g.map tp) 0) = -1
      · simp only [if_pos c2]
        exact Geo.Ev.val hv (by rw [decide_eq_true c1, decide_eq_true c2]; simp)
      · simp only [if_neg c2]
        exact Geo.Ev.const (by rw [decide_eq_false c2]; simp)
    · simp only [if_neg c1]
      exact Geo.Ev.const (by rw [decide_eq_false c1]; simp)
/-- One hole. -/
theorem sPlate_hole {o : List S25} {hs : List (List S25)} {i : Nat} {h : List S25} (hg : rd_L4 hs (i : Int) = h) (hlt : i < hs.length) (Lo : Geo.Loop (o.map tp)) {v : Bool}
    (hv : Geo.Loop (h.map tp) → Geo.Ev (fun k => spec_PlateOk.l1 k (i : Int) h 0 o hs) v) : Geo.Ev (fun k => spec_PlateOk.l0 k (i : Int) o hs) (holeB o h && v) := by
  have st : ∀ k, spec_PlateOk.l0 (k + 1) (i : Int) o hs = (spec_LoopOk.f k h).bind fun t440 => if t440 = true then (if 0 < (h.length : Int) then (spec_l3In.f k o (rd_T25 h 0).f0 (rd_T25 h 0).f1).bind fun t442 => if t442 = 1 then (spec_l11Apart.f k o h).bind fun t443 => spec_PlateOk.j2 k (i : Int) h (!t443) o hs else spec_PlateOk.j2 k (i : Int) h true o hs else none) else spec_PlateOk.j2 k (i : Int) h true o hs := fun k => by
    rw [spec_PlateOk.l0, if_pos (by omega), if_pos (by omega), hg]
  have no : Geo.Ev (fun k => spec_PlateOk.j2 k (i : Int) h true o hs) false := Geo.Ev.step (Geo.Ev.const rfl) fun k => by rw [spec_PlateOk.j2, if_pos rfl]
  refine Geo.Ev.step (Geo.Ev.bind (sLoopOk_tells h) ?_) st
  unfold holeB
  cases hk : Geo.loopOk (h.map tp)
  · simp only [Bool.false_eq_true, if_false]; exact no
  · have Lh := (Geo.loopOk_iff _).1 hk
    have ph := plate_len Lh
    simp only [if_true, if_pos (show (0 : Int) < (h.length : Int) by omega)]
    refine Geo.Ev.bind (first_in Lo Lh) ?_
    by_cases c1 : Geo.inside (o.map tp) (Geo.pt (h.map tp) 0) = 1
    · simp only [if_pos c1]
      refine Geo.Ev.bind (l11Apart_tells Lo Lh) ?_
      cases ha : apart0 (o.map tp) (h.map tp)
      · exact Geo.Ev.val no (by simp)
      · refine Geo.Ev.step (Geo.Ev.val (hv Lh) (by rw [decide_eq_true c1]; simp)) fun k => ?_
        rw [Bool.not_true, spec_PlateOk.j2, if_neg (by decide)]
    · simp only [if_neg c1]
      exact Geo.Ev.val no (by rw [decide_eq_false c1]; simp)

noncomputable def plateB (o : List S25) : List (List S25) → Bool
  | [] => true
  | [a] => holeB o a
  | [a, b] => holeB o a && (holeB o b && pairB b a)
  | _ => false
theorem sPlate_end {o h : List S25} {hs : List (List S25)} {i : Nat} (hi : i < 4) {v : Bool} (hv : Geo.Ev (fun k => spec_PlateOk.l0 k ((i + 1 : Nat) : Int) o hs) v) : Geo.Ev (fun k => spec_PlateOk.l1 k (i : Int) h (i : Int) o hs) v := by
  have e1 : wrap64 ((i : Int) + 1) = ((i + 1 : Nat) : Int) := Geo.w64 (by omega) (by omega)
  exact Geo.Ev.step hv fun k => by rw [spec_PlateOk.l1, if_neg (by omega), e1]
theorem sPlate_last {o : List S25} {hs : List (List S25)} : Geo.Ev (fun k => spec_PlateOk.l0 k (hs.length : Int) o hs) true :=
  Geo.Ev.step (Geo.Ev.const rfl) fun k => by rw [spec_PlateOk.l0, if_neg (by omega)]
theorem sPlateOk_B (o : List S25) (hs : List (List S25)) : Geo.Ev (fun k => spec_PlateOk.f k o hs) (Geo.loopOk (o.map tp) && plateB o hs) := by
  unfold spec_PlateOk.f
  refine Geo.Ev.bind (sLoopOk_tells o) ?_
  have no : Geo.Ev (fun k => spec_PlateOk.j0 k true o hs) false := Geo.Ev.step (Geo.Ev.const rfl) fun k => by rw [spec_PlateOk.j0, if_pos rfl]
  cases ho : Geo.loopOk (o.map tp)
  · simp only [Bool.false_eq_true, if_false]; exact no
  · have Lo := (Geo.loopOk_iff _).1 ho
    simp only [if_true, Bool.true_and]
    by_cases h2 : (hs.length : Int) > 2
    · rw [decide_eq_true h2]
      refine Geo.Ev.val no ?_
      match hs, h2 with
      | [], h => simp at h
      | [_], h => simp at h
      | [_, _], h => simp at h
      | _ :: _ :: _ :: _, _ => rfl
    · rw [decide_eq_false h2]
      refine Geo.Ev.step (g := fun k => spec_PlateOk.l0 k 0 o hs) ?_ fun k => by rw [spec_PlateOk.j0, if_neg (by decide)]
      clear no
      match hs, h2 with
      | [], _ => exact sPlate_last (hs := [])
      | [a], _ =>
        refine Geo.Ev.val (sPlate_hole (i := 0) (hs := [a]) (h := a) (v := true) rfl (by simp) Lo fun La => ?_) (by rw [plateB, Bool.and_true])
        exact sPlate_end (i := 0) (by decide) (sPlate_last (hs := [a]))
      | [a, b], _ =>
        refine sPlate_hole (i := 0) (hs := [a, b]) (h := a) rfl (by simp) Lo fun La => ?_
        refine sPlate_end (i := 0) (by decide) ?_
        refine sPlate_hole (i := 1) (hs := [a, b]) (h := b) rfl (by simp) Lo fun Lb => ?_
        refine Geo.Ev.val (sPlate_pair (i := 1) (j := 0) (hs := [a, b]) (h := b) (g := a) (v := true) (by decide) (by decide) rfl (by simp) Lb La ?_) (by rw [Bool.and_true])
        exact sPlate_end (i := 1) (by decide) (sPlate_last (hs := [a, b]))
      | _ :: _ :: _ :: _, h => simp at h; omega
theorem holeB_iff {o h : List S25} (Lo : Geo.Loop (o.map tp)) : holeB o h = true ↔ Geo.Loop (h.map tp) ∧ Geo.Apart (o.map tp) (h.map tp) ∧ Geo.inside (o.map tp) (Geo.pt (h.map tp) 0) = 1 := by
  unfold holeB
  rw [Bool.and_eq_true, Bool.and_eq_true, decide_eq_true_eq, Geo.loopOk_iff]
  have po := plate_len Lo
  constructor
  · rintro ⟨L, i, a⟩
    have ph := plate_len L
    exact ⟨L, (apart0_iff (by rw [List.length_map]; exact po.1) (by rw [List.length_map]; exact ph.1)).1 a, i⟩
  · rintro ⟨L, a, i⟩
    have ph := plate_len L
    exact ⟨L, i, (apart0_iff (by rw [List.length_map]; exact po.1) (by rw [List.length_map]; exact ph.1)).2 a⟩
theorem pairB_iff {h g : List S25} (Lh : Geo.Loop (h.map tp)) (Lg : Geo.Loop (g.map tp)) : pairB h g = true ↔ Geo.Apart (h.map tp) (g.map tp) ∧ Geo.inside (g.map tp) (Geo.pt (h.map tp) 0) = -1 ∧ Geo.inside (h.map tp) (Geo.pt (g.map tp) 0) = -1 := by
  unfold pairB
  have p1 := plate_len Lh
  have p2 := plate_len Lg
  rw [Bool.and_eq_true, Bool.and_eq_true, decide_eq_true_eq, decide_eq_true_eq, apart0_iff (by rw [List.length_map]; exact p1.1) (by rw [List.length_map]; exact p2.1)]
theorem plateB_ok (o : List S25) (hs : List (List S25)) : (Geo.loopOk (o.map tp) && plateB o hs) = Geo.plateOk (o.map tp) (hs.map fun h => h.map tp) := by
  rw [Bool.eq_iff_iff, Bool.and_eq_true, Geo.loopOk_iff, Geo.plateOk_iff]
  constructor
  · rintro ⟨Lo, h⟩
    match hs, h with
    | [], _ => exact ⟨Lo, by simp, by simp, by simp⟩
    | [a], h =>
      have ha := (holeB_iff Lo).1 h
      refine ⟨Lo, by simp, fun x hx => ?_, fun i k x y hi hk hne => ?_⟩
      · simp at hx; subst hx; exact ha
      · simp [List.getElem?_cons] at hi hk; omega
    | [a, b], h =>
      rw [plateB, Bool.and_eq_true, Bool.and_eq_true] at h
      have ha := (holeB_iff Lo).1 h.1
      have hb := (holeB_iff Lo).1 h.2.1
      have hp := (pairB_iff hb.1 ha.1).1 h.2.2
      refine ⟨Lo, by simp, fun x hx => ?_, fun i k x y hi hk hne => ?_⟩
      · simp at hx
        rcases hx with rfl | rfl
        · exact ha
        · exact hb
      · match i, k, hi, hk, hne with
        | 0, 0, _, _, hne => exact absurd rfl hne
        | 1, 1, _, _, hne => exact absurd rfl hne
        | 0, 1, hi, hk, _ =>
          simp at hi hk; subst hi; subst hk
          exact ⟨hp.1.symm, hp.2.2⟩
        | 1, 0, hi, hk, _ =>
          simp at hi hk; subst hi; subst hk
          exact ⟨hp.1, hp.2.1⟩
        | i + 2, _, hi, _, _ => simp at hi
        | 0, k + 2, _, hk, _ => simp at hk
        | 1, k + 2, _, hk, _ => simp at hk
    | _ :: _ :: _ :: _, h => simp [plateB] at h
  · intro H
    refine ⟨H.outer, ?_⟩
    match hs, H with
    | [], _ => rfl
    | [a], H => exact (holeB_iff H.outer).2 (H.hole _ (by simp))
    | [a, b], H =>
      have ha := H.hole (a.map tp) (by simp)
      have hb := H.hole (b.map tp) (by simp)
      have p1 := H.beside 1 0 (b.map tp) (a.map tp) rfl rfl (by decide)
      have p2 := H.beside 0 1 (a.map tp) (b.map tp) rfl rfl (by decide)
      rw [plateB, (holeB_iff H.outer).2 ha, (holeB_iff H.outer).2 hb, (pairB_iff hb.1 ha.1).2 ⟨p1.1, p1.2, p2.2⟩]; rfl
    | _ :: _ :: _ :: _, H => have := H.few; simp at this
theorem sPlateOk_tells (o : List S25) (hs : List (List S25)) : Geo.Ev (fun k => spec_PlateOk.f k o hs) (Geo.plateOk (o.map tp) (hs.map fun h => h.map tp)) := by
  rw [← plateB_ok]; exact sPlateOk_B o hs

theorem loop_all (l : List S25) : impl_LoopOk.all l = Geo.loopOk (l.map tp) := Option.some.inj (iLoopOk_tells l)
theorem apart0_symm {a b : List S25} (La : Geo.Loop (a.map tp)) (Lb : Geo.Loop (b.map tp)) : apart0 (a.map tp) (b.map tp) = apart0 (b.map tp) (a.map tp) := by
  have p1 := plate_len La
  have p2 := plate_len Lb
  rw [Bool.eq_iff_iff, apart0_iff (by rw [List.length_map]; exact p1.1) (by rw [List.length_map]; exact p2.1), apart0_iff (by rw [List.length_map]; exact p2.1) (by rw [List.length_map]; exact p1.1)]
  exact ⟨Geo.Apart.symm, Geo.Apart.symm⟩
theorem meets_B {a b : List S25} (La : Geo.Loop (a.map tp)) (Lb : Geo.Loop (b.map tp)) : (!impl_ring_meets.any a b) = apart0 (a.map tp) (b.map tp) := by
  have p1 := plate_len La
  have p2 := plate_len Lb
  rw [Bool.eq_iff_iff, Bool.not_eq_true', meets_tells La Lb, apart0_iff (by rw [List.length_map]; exact p1.1) (by rw [List.length_map]; exact p2.1)]
theorem insF_hd {o h : List S25} (Lo : Geo.Loop (o.map tp)) (Lh : Geo.Loop (h.map tp)) : insF o (hd0 h) = Geo.inside (o.map tp) (Geo.pt (h.map tp) 0) := by
  rw [insF_tells Lo (by rw [hd0_tells (plate_len Lh).1]; exact Lh.ok 0), hd0_tells (plate_len Lh).1]
theorem bodyOk_B (o : List S25) (hs : List (List S25)) : bodyOk o hs = (Geo.loopOk (o.map tp) && plateB o hs) := by
  unfold bodyOk
  rw [loop_all]
  cases ho : Geo.loopOk (o.map tp)
  · simp
  have Lo := (Geo.loopOk_iff _).1 ho
  match hs with
  | [] => simp [apartB, nestP, plateB]
  | [a] =>
    simp only [List.all_cons, List.all_nil, loop_all, plateB, holeB, apartB, nestP, Bool.and_true, Bool.true_and, List.length_cons, List.length_nil]
    cases ha : Geo.loopOk (a.map tp)
    · simp
    have La := (Geo.loopOk_iff _).1 ha
    rw [meets_B Lo La, insF_hd Lo La]
    simp [Bool.and_comm]
  | [a, b] =>
    simp only [List.all_cons, List.all_nil, loop_all, plateB, holeB, pairB, apartB, nestP, Bool.and_true, Bool.true_and, List.length_cons, List.length_nil]
    cases ha : Geo.loopOk (a.map tp)
    · simp
    cases hb : Geo.loopOk (b.map tp)
    · simp
    have La := (Geo.loopOk_iff _).1 ha
    have Lb := (Geo.loopOk_iff _).1 hb
    rw [meets_B Lo La, meets_B Lo Lb, meets_B La Lb, insF_hd Lo La, insF_hd Lo Lb, insF_hd La Lb, insF_hd Lb La, apart0_symm Lb La]
    simp only [Bool.true_and, show decide (0 + 1 + 1 ≤ 2) = true from rfl]
    ac_rfl
  | _ :: _ :: _ :: _ => simp [plateB]
theorem bodyOk_tells (o : List S25) (hs : List (List S25)) : bodyOk o hs = Geo.plateOk (o.map tp) (hs.map fun h => h.map tp) := by rw [bodyOk_B, plateB_ok]

def Small (o : List S25) (hs : List (List S25)) : Prop := o.length ≤ 7 ∧ hs.length ≤ 4 ∧ ∀ g ∈ hs, g.length ≤ 7
theorem pk_ev {b : List Int} {p' n v : Int} (e : spec_l6Rd_pick.f 1 b p' n = some (v, p' + 1)) : Geo.Ev (fun k => spec_l6Rd_pick.f k b p' n) (v, p' + 1) := ev_mono (f := fun k => spec_l6Rd_pick.f k _ _ _) (fun k => spec_l6Rd_pick.mono _ _ _ _) e
theorem box_ev {b : List Int} {p x y w v q : Int} {l : List S25} (e : spec_l71Box.f 1 b p x y w v = some (l, q)) : Geo.Ev (fun k => spec_l71Box.f k b p x y w v) (l, q) := ev_mono (f := fun k => spec_l71Box.f k _ _ _ _ _ _) (fun k => spec_l71Box.mono _ _ _ _ _ _ _) e
theorem l71Good_loop {b : List Int} {x y w v : Int} (hw : 4 ≤ w ∧ w ≤ 20) (hv : 4 ≤ v ∧ v ≤ 20) {o : List S25} : ∀ (n : Nat) (p m : Int) (hs : List (List S25)), Geo.Rdr b p m → m + 5 * n ≤ 800000 → n ≤ 10 → hs.length + n ≤ 20 → (∀ g ∈ hs, g.length ≤ 7) →
    ∃ hs' q, Geo.Ev (fun k => spec_l71Good.l0 k x y w v (n : Int) b p o hs) (o, hs', q) ∧ hs'.length ≤ hs.length + n ∧ (∀ g ∈ hs', g.length ≤ 7) ∧ Geo.Rdr b q (m + 5 * n)
  | 0, p, m, hs, h, _, _, _, hg => by
    refine ⟨hs, p, Geo.Ev.step (Geo.Ev.const (o := some (o, hs, p)) rfl) fun k => ?_, by omega, hg, h.up h.lo (by have := h.hi; omega)⟩
    rw [spec_l71Good.l0, if_neg (by omega)]
  | n + 1, p, m, hs, h, hm, hn, hl, hg => by
    have lo := h.lo
    have hi := h.hi
    obtain ⟨v1, f1, a1, b1⟩ := pick_at 0 h (by omega) (show (1 : Int) ≤ w - 2 by omega) (by omega)
    obtain ⟨v2, f2, a2, b2⟩ := pick_at 0 (h.up (q := p + 1) (n := m + 1) (by omega) (by omega)) (by omega) (show (1 : Int) ≤ v - 2 by omega) (by omega)
    obtain ⟨v3, f3, a3, b3⟩ := pick_at 0 (h.up (q := p + 1 + 1) (n := m + 2) (by omega) (by omega)) (by omega) (show (1 : Int) ≤ 2 by omega) (by omega)
    obtain ⟨v4, f4, a4, b4⟩ := pick_at 0 (h.up (q := p + 1 + 1 + 1) (n := m + 3) (by omega) (by omega)) (by omega) (show (1 : Int) ≤ 2 by omega) (by omega)
    have w1 : wrap64 (w - 2) = w - 2 := Geo.w64 (by omega) (by omega)
    have w2 : wrap64 (v - 2) = v - 2 := Geo.w64 (by omega) (by omega)
    have w5 : wrap64 (((n + 1 : Nat) : Int) - 1) = (n : Int) := by rw [Geo.w64 (by omega) (by omega)]; omega
    obtain ⟨l, f5, h3, h6⟩ := l71Box_tells 0 (h.up (q := p + 1 + 1 + 1 + 1) (n := m + 4) (by omega) (by omega)) (by omega) (wrap64 ((wrap64 (x + 1)) + v1)) (wrap64 ((wrap64 (y + 1)) + v2)) (wrap64 (1 + v3)) (wrap64 (1 + v4))
    have h5 := h.up (q := p + 1 + 1 + 1 + 1 + 1) (n := m + 5) (by omega) (by omega)
    have go : ∀ r, Geo.Ev (fun k => if Geo.plateOk (o.map tp) ((hs ++ [l]).map fun h => h.map tp) = true then spec_l71Good.l0 k x y w v (n : Int) b (p + 1 + 1 + 1 + 1 + 1) o (hs ++ [l]) else spec_l71Good.l0 k x y w v (n : Int) b (p + 1 + 1 + 1 + 1 + 1) o hs) r →
        Geo.Ev (fun k => spec_l71Good.l0 k x y w v ((n + 1 : Nat) : Int) b p o hs) r := by
      intro r hr
      refine Geo.Ev.step (g := fun k => (spec_l6Rd_pick.f k b p (wrap64 (w - 2))).bind fun t1 => (spec_l6Rd_pick.f k b t1.2 (wrap64 (v - 2))).bind fun t2 => (spec_l6Rd_pick.f k b t2.2 2).bind fun t3 => (spec_l6Rd_pick.f k b t3.2 2).bind fun t4 => (spec_l71Box.f k b t4.2 (wrap64 ((wrap64 (x + 1)) + t1.1)) (wrap64 ((wrap64 (y + 1)) + t2.1)) (wrap64 (1 + t3.1)) (wrap64 (1 + t4.1))).bind fun t5 => (spec_PlateOk.f k o (hs ++ [t5.1])).bind fun t6 => if t6 = true then spec_l71Good.l0 k x y w v (n : Int) b t5.2 o (hs ++ [t5.1]) else spec_l71Good.l0 k x y w v (n : Int) b t5.2 o hs) ?_ fun k => ?_
      · simp only [w1, w2]
        refine Geo.Ev.bind (pk_ev f1) (Geo.Ev.bind (pk_ev f2) (Geo.Ev.bind (pk_ev f3) (Geo.Ev.bind (pk_ev f4) ?_)))
        exact Geo.Ev.bind (box_ev f5) (Geo.Ev.bind (sPlateOk_tells o (hs ++ [l])) hr)
      · rw [spec_l71Good.l0, if_pos (by omega), w5]
        simp only [Option.bind_some, List.length_nil, List.nil_append, if_pos (show 0 + hs.length < 5864062014805 by omega), if_pos (show hs.length < 5864062014805 by omega)]
    by_cases c : Geo.plateOk (o.map tp) ((hs ++ [l]).map fun h => h.map tp) = true
    · obtain ⟨hs', q, e, l1, l2, hr⟩ := l71Good_loop hw hv (o := o) n (p + 1 + 1 + 1 + 1 + 1) (m + 5) (hs ++ [l]) h5 (by omega) (by omega) (by rw [List.length_append, List.length_singleton]; omega) (fun g hgm => by
        rcases List.mem_append.1 hgm with hgm | hgm
        · exact hg g hgm
        · rw [List.mem_singleton.1 hgm]; omega)
      rw [List.length_append, List.length_singleton] at l1
      refine ⟨hs', q, go _ ?_, by omega, l2, by rw [show m + 5 * ((n + 1 : Nat) : Int) = m + 5 + 5 * (n : Int) by omega]; exact hr⟩
      simp only [if_pos c]; exact e
    · obtain ⟨hs', q, e, l1, l2, hr⟩ := l71Good_loop hw hv (o := o) n (p + 1 + 1 + 1 + 1 + 1) (m + 5) hs h5 (by omega) (by omega) (by omega) hg
      refine ⟨hs', q, go _ ?_, by omega, l2, by rw [show m + 5 * ((n + 1 : Nat) : Int) = m + 5 + 5 * (n : Int) by omega]; exact hr⟩
      simp only [if_neg c]; exact e
theorem l71Good_tells {b : List Int} {p m : Int} (h : Geo.Rdr b p m) (hm : m ≤ 400000) :
    ∃ o hs q, Geo.Ev (fun k => spec_l71Good.f k b p) (o, hs, q) ∧ o.length ≤ 6 ∧ hs.length ≤ 2 ∧ (∀ g ∈ hs, g.length ≤ 7) ∧ Geo.Rdr b q (m + 20) := by
  have lo := h.lo
  have hi := h.hi
  obtain ⟨v1, f1, a1, b1⟩ := pick_at 0 h (by omega) (show (1 : Int) ≤ 3 by omega) (by omega)
  obtain ⟨v2, f2, a2, b2⟩ := pick_at 0 (h.up (q := p + 1) (n := m + 1) (by omega) (by omega)) (by omega) (show (1 : Int) ≤ 3 by omega) (by omega)
  obtain ⟨v3, f3, a3, b3⟩ := pick_at 0 (h.up (q := p + 1 + 1) (n := m + 2) (by omega) (by omega)) (by omega) (show (1 : Int) ≤ 9 - v1 - 3 by omega) (by omega)
  obtain ⟨v4, f4, a4, b4⟩ := pick_at 0 (h.up (q := p + 1 + 1 + 1) (n := m + 3) (by omega) (by omega)) (by omega) (show (1 : Int) ≤ 9 - v2 - 3 by omega) (by omega)
  have w1 : wrap64 (wrap64 (9 - v1) - 3) = 9 - v1 - 3 := by rw [Geo.w64 (n := 9 - v1) (by omega) (by omega), Geo.w64 (by omega) (by omega)]
  have w2 : wrap64 (wrap64 (9 - v2) - 3) = 9 - v2 - 3 := by rw [Geo.w64 (n := 9 - v2) (by omega) (by omega), Geo.w64 (by omega) (by omega)]
  have w3 : wrap64 (4 + v3) = 4 + v3 := Geo.w64 (by omega) (by omega)
  have w4 : wrap64 (4 + v4) = 4 + v4 := Geo.w64 (by omega) (by omega)
  obtain ⟨l, f5, h3, h6⟩ := l71Box_tells 0 (h.up (q := p + 1 + 1 + 1 + 1) (n := m + 4) (by omega) (by omega)) (by omega) v1 v2 (4 + v3) (4 + v4)
  obtain ⟨v6, f6, a6, b6⟩ := pick_at 0 (h.up (q := p + 1 + 1 + 1 + 1 + 1) (n := m + 5) (by omega) (by omega)) (by omega) (show (1 : Int) ≤ 3 by omega) (by omega)
  obtain ⟨hs, q, e, l1, l2, hr⟩ := l71Good_loop (x := v1) (y := v2) (w := 4 + v3) (v := 4 + v4) (by omega) (by omega) (o := l) v6.toNat (p + 1 + 1 + 1 + 1 + 1 + 1) (m + 6) [] (h.up (by omega) (by omega)) (by omega) (by omega) (by rw [List.length_nil]; omega) (by simp)
  rw [show ((v6.toNat : Nat) : Int) = v6 by omega] at e
  refine ⟨l, hs, q, ?_, h6, by simp at l1; omega, l2, hr.up hr.lo (by have := hr.hi; omega)⟩
  unfold spec_l71Good.f
  refine Geo.Ev.bind (pk_ev f1) (Geo.Ev.bind (pk_ev f2) ?_)
  simp only [w1, w2]
  refine Geo.Ev.bind (pk_ev f3) (Geo.Ev.bind (pk_ev f4) ?_)
  simp only [w3, w4]
  exact Geo.Ev.bind (box_ev f5) (Geo.Ev.bind (pk_ev f6) e)

theorem l71Plate_tells {b : List Int} {p m : Int} (h : Geo.Rdr b p m) (hm : m ≤ 300000) :
    ∃ o hs q, Geo.Ev (fun k => spec_l71Plate.f k b p) (o, hs, q) ∧ o.length ≤ 7 ∧ hs.length ≤ 3 ∧ (∀ g ∈ hs, g.length ≤ 7) ∧ Geo.Rdr b q (m + 80) := by
  obtain ⟨o, hs, q, e, h1, h2, h3, hr⟩ := l71Good_tells h (by omega)
  have lo := hr.lo
  have hi := hr.hi
  obtain ⟨v1, f1, a1, b1⟩ := pick_at 0 hr (by omega) (show (1 : Int) ≤ 24 by omega) (by omega)
  have h5 := hr.up (q := q + 1) (n := m + 21) (by omega) (by omega)
  obtain ⟨l, q2, e2, k3, k7, hr2⟩ := l71Loop_tells h5 (by omega)
  obtain ⟨x, y, q3, e3, n1, n2, hr3⟩ := l71Pt_tells 0 h5 (by omega)
  have hp : Geo.Ev (fun k => spec_l71Pt.f k b (q + 1)) (x, y, q3) := ev_mono (f := fun k => spec_l71Pt.f k _ _) (fun k => spec_l71Pt.mono _ _ _) e3
  unfold spec_l71Plate.f
  by_cases c0 : v1 = 0
  · refine ⟨l, hs, q2, Geo.Ev.bind e (Geo.Ev.bind (pk_ev f1) ?_), k7, by omega, h3, hr2.up hr2.lo (by have := hr2.hi; omega)⟩
    simp only [if_pos c0]
    exact Geo.Ev.bind e2 (Geo.Ev.const rfl)
  by_cases c1 : v1 = 1
  · refine ⟨o, hs ++ [l], q2, Geo.Ev.bind e (Geo.Ev.bind (pk_ev f1) ?_), by omega, by rw [List.length_append, List.length_singleton]; omega, fun g hg => ?_, hr2.up hr2.lo (by have := hr2.hi; omega)⟩
    · simp only [if_neg c0, if_pos c1]
      exact Geo.Ev.bind e2 (Geo.Ev.const (by rw [if_pos (by omega)]))
    · rcases List.mem_append.1 hg with hg | hg
      · exact h3 g hg
      · rw [List.mem_singleton.1 hg]; exact k7
  by_cases c2 : v1 = 2
  · refine ⟨o ++ [⟨x, y⟩], hs, q3, Geo.Ev.bind e (Geo.Ev.bind (pk_ev f1) ?_), by rw [List.length_append, List.length_singleton]; omega, by omega, h3, hr3.up hr3.lo (by have := hr3.hi; omega)⟩
    simp only [if_neg c0, if_neg c1, if_pos c2, Option.bind_some, List.length_nil, List.nil_append]
    simp only [if_pos (show 0 + o.length < 8796093022208 by omega), if_pos (show o.length < 8796093022208 by omega)]
    exact Geo.Ev.bind hp (Geo.Ev.const rfl)
  · refine ⟨o, hs, q + 1, Geo.Ev.bind e (Geo.Ev.bind (pk_ev f1) ?_), by omega, by omega, h3, h5.up h5.lo (by have := h5.hi; omega)⟩
    simp only [if_neg c0, if_neg c1, if_neg c2]
    exact Geo.Ev.const rfl

theorem drawPlateEdges_tells {l : List Int} (hl : ∀ x ∈ l, (Lit.int .u8 x).wf = true) : ∃ o hs, Geo.Ev (fun k => spec_DrawPlateEdges.f k l) (o, hs) ∧ Small o hs := by
  obtain ⟨b, e0, h0⟩ := open_tells hl
  obtain ⟨o, hs, q, e, h1, h2, h3, hr⟩ := l71Plate_tells h0 (by omega)
  unfold spec_DrawPlateEdges.f
  simp only [e0, Option.bind_some]
  exact ⟨o, hs, Geo.Ev.bind e (Geo.Ev.const rfl), h1, by omega, h3⟩

def edgs (ls : List (List S25)) : List S35 := ls.flatMap edg
theorem edgs_cons (l : List S25) (ls : List (List S25)) : edgs (l :: ls) = edg l ++ edgs ls := by simp [edgs]
theorem edgs_app (a b : List (List S25)) : edgs (a ++ b) = edgs a ++ edgs b := by simp [edgs]
theorem edgs_len : ∀ (ls : List (List S25)), (∀ l ∈ ls, l.length ≤ 8) → (edgs ls).length ≤ 8 * ls.length
  | [], _ => by simp [edgs]
  | l :: ls, h => by
    have h1 := edgs_len ls fun x hx => h x (List.mem_cons_of_mem _ hx)
    have h2 := h l (List.mem_cons_self ..)
    rw [edgs_cons, List.length_append, edg_len, List.length_cons]; omega
theorem iPlateEdges_tells (o : List S25) (hs : List (List S25)) : impl_PlateEdges.f o hs = some (if Geo.plateOk (o.map tp) (hs.map fun h => h.map tp) = true then edgs (o :: hs) else []) := by
  unfold impl_PlateEdges.f
  rw [bodyOk_tells]
  have e : (bodyEdges (o :: hs)).map bodyTo = edgs (o :: hs) := by
    unfold bodyEdges edgs
    rw [List.map_flatMap]
    congr 1
    funext l
    unfold edgeRow Edges.upto edg
    rw [List.map_map]; rfl
  rw [e]

theorem l11Edges_loop {o : List S25} {hs : List (List S25)} (hl : hs.length ≤ 2) (h8 : ∀ h ∈ hs, h.length ≤ 8) : ∀ (m i : Nat) (acc : List S35), i + m = hs.length → acc.length ≤ 8 + 8 * i →
    Geo.Ev (fun k => spec_l11Edges.l0 k acc (i : Int) o hs) (acc ++ edgs (hs.drop i))
  | 0, i, acc, h, _ => by
    refine Geo.Ev.step (Geo.Ev.const (o := some acc) (by rw [List.drop_of_length_le (by omega)]; simp [edgs])) fun k => ?_
    rw [spec_l11Edges.l0, if_neg (by omega)]
  | m + 1, i, acc, h, ha => by
    have hi : i < hs.length := by omega
    have e1 : wrap64 ((i : Int) + 1) = ((i + 1 : Nat) : Int) := Geo.w64 (by omega) (by omega)
    have b := h8 hs[i] (List.getElem_mem hi)
    have ih := l11Edges_loop (o := o) hl h8 m (i + 1) (acc ++ edg hs[i]) (by omega) (by rw [List.length_append, edg_len]; omega)
    have st : ∀ k, spec_l11Edges.l0 (k + 1) acc (i : Int) o hs = (spec_l3Edges.f k hs[i]).bind fun t => if acc.length + t.length < 4398046511104 then spec_l11Edges.l0 k (acc ++ t) ((i + 1 : Nat) : Int) o hs else none := fun k => by
      rw [spec_l11Edges.l0, if_pos (by omega), if_pos (by omega), rd_L4_el hi, e1]
    refine Geo.Ev.step (Geo.Ev.bind (l3Edges_tells (by omega)) ?_) st
    simp only [if_pos (show acc.length + (edg hs[i]).length < 4398046511104 by rw [edg_len]; omega)]
    exact Geo.Ev.val ih (by rw [List.drop_eq_getElem_cons hi, edgs_cons, List.append_assoc])

theorem sPlateEdges_tells (o : List S25) (hs : List (List S25)) : Geo.Ev (fun k => spec_PlateEdges.f k o hs) (if Geo.plateOk (o.map tp) (hs.map fun h => h.map tp) = true then edgs (o :: hs) else []) := by
  unfold spec_PlateEdges.f
  refine Geo.Ev.bind (sPlateOk_tells o hs) ?_
  cases h : Geo.plateOk (o.map tp) (hs.map fun h => h.map tp)
  · simp only [Bool.false_eq_true, if_false]; exact Geo.Ev.const rfl
  · have H := (Geo.plateOk_iff _ _).1 h
    simp only [if_true]
    have hl : hs.length ≤ 2 := by have := H.few; rwa [List.length_map] at this
    have po := plate_len H.outer
    unfold spec_l11Edges.f
    have := l11Edges_loop (o := o) hl (fun h hh => (plate_len (H.hole _ (List.mem_map_of_mem hh)).1).2) hs.length 0 (edg o) (by omega) (by rw [edg_len]; omega)
    refine Geo.Ev.bind (Geo.Ev.bind (l3Edges_tells (by omega)) this) (Geo.Ev.const ?_)
    rw [edgs_cons]; rfl

theorem rd_S_el {l : List S35} {i : Nat} (hi : i < l.length) : rd_T35 l (i : Int) = l[i] := by unfold rd_T35; rw [Int.toNat_natCast, List.getD_eq_getElem?_getD, List.getElem?_eq_getElem hi]; rfl
theorem mem_edg {l : List S25} {s : S35} (h : s ∈ edg l) : ∃ i, i < l.length ∧ tp s.f0 = Geo.pt (l.map tp) i ∧ tp s.f1 = Geo.pt (l.map tp) (i + 1) := by
  obtain ⟨i, hi, rfl⟩ := List.mem_map.1 h
  have hi := List.mem_range.1 hi
  exact ⟨i, hi, (pt_tp hi).symm, (pt_rd l (i + 1)).symm⟩
end Go.Proofs.Ytehkklmacglelaa.Pure
namespace Go.Proofs.Ytehkklmacglelaa.Pure
open Go.RowKit Go.Proofs.Ytehkklmacglelaa.PA Go.Proofs.YtehkklmacglelaaW.PrintWords Go.Proofs.YtehkklmacglelaaW.PrintLast Go.Proofs.YtehkklmacglelaaW.PrintMore
open Go.Proofs.Ytehkklmacglelaa
set_option linter.unusedVariables false
set_option linter.unusedSimpArgs false
theorem plEd_l2 {es : List S35} {n i : Nat} (hl : es.length ≤ 1000) (hn : n ≤ es.length) (hi : i < es.length)
    (hm : n ≤ i → ∀ j, (h : j < n) → Geo.meet (tp es[i].f0) (tp es[i].f1) (tp (es[j]'(Nat.lt_of_lt_of_le h hn)).f0) (tp (es[j]'(Nat.lt_of_lt_of_le h hn)).f1) = false)
    (hv : Geo.Ev (fun k => laws_FnPlateEdges.l1 k es es (n : Int) ((i + 1 : Nat) : Int)) true) : ∀ m j, j + m = n → Geo.Ev (fun k => laws_FnPlateEdges.l2 k es es (n : Int) (i : Int) (j : Int)) true
  | 0, j, e => by
    have e1 : wrap64 ((i : Int) + 1) = ((i + 1 : Nat) : Int) := Geo.w64 (by omega) (by omega)
    exact Geo.Ev.step hv fun k => by rw [laws_FnPlateEdges.l2, if_neg (by omega), e1]
  | m + 1, j, e => by
    have hj : j < n := by omega
    have e1 : wrap64 ((j : Int) + 1) = ((j + 1 : Nat) : Int) := Geo.w64 (by omega) (by omega)
    have ih := plEd_l2 hl hn hi hm hv m (j + 1) (by omega)
    by_cases c : n ≤ i
    · have hf := hm c j hj
      refine Geo.Ev.step (g := fun k => (impl_SegMeet.f k es[i].f0.f0 es[i].f0.f1 es[i].f1.f0 es[i].f1.f1 (es[j]'(by omega)).f0.f0 (es[j]'(by omega)).f0.f1 (es[j]'(by omega)).f1.f0 (es[j]'(by omega)).f1.f1).bind fun t => if t = true then some false else laws_FnPlateEdges.l2 k es es (n : Int) (i : Int) ((j + 1 : Nat) : Int)) ?_ fun k => by
        rw [laws_FnPlateEdges.l2, if_pos (by omega), if_pos (by omega), if_pos (by omega), if_pos (by omega), if_pos (by omega), if_pos (by omega), rd_S_el hi, rd_S_el (show j < es.length by omega), e1]
      refine Geo.Ev.bind (Geo.Ev.of 3 fun k => iSegMeet_tells k _ _ _ _ _ _ _ _) ?_
      have hf' : Geo.meet (es[i].f0.f0, es[i].f0.f1) (es[i].f1.f0, es[i].f1.f1) ((es[j]'(by omega)).f0.f0, (es[j]'(by omega)).f0.f1) ((es[j]'(by omega)).f1.f0, (es[j]'(by omega)).f1.f1) = false := hf
      rw [hf']
      simp only [Bool.false_eq_true, if_false]
      exact ih
    · exact Geo.Ev.step ih fun k => by rw [laws_FnPlateEdges.l2, if_pos (by omega), if_neg (by omega), e1]
theorem plEd_l1 {es : List S35} {n : Nat} (hl : es.length ≤ 1000) (hn : n ≤ es.length)
    (hm : ∀ i, (hi : i < es.length) → n ≤ i → ∀ j, (h : j < n) → Geo.meet (tp es[i].f0) (tp es[i].f1) (tp (es[j]'(Nat.lt_of_lt_of_le h hn)).f0) (tp (es[j]'(Nat.lt_of_lt_of_le h hn)).f1) = false) : ∀ m i, i + m = es.length → Geo.Ev (fun k => laws_FnPlateEdges.l1 k es es (n : Int) (i : Int)) true
  | 0, i, e => Geo.Ev.step (Geo.Ev.const (o := some true) rfl) fun k => by rw [laws_FnPlateEdges.l1, if_neg (by omega)]
  | m + 1, i, e => by
    have hi : i < es.length := by omega
    have ih := plEd_l1 hl hn hm m (i + 1) (by omega)
    refine Geo.Ev.step (plEd_l2 hl hn hi (hm i hi) ih n 0 (by omega)) fun k => ?_
    rw [laws_FnPlateEdges.l1, if_pos (by omega), if_pos (by omega), if_pos (by omega), if_neg (by simp)]; rfl
theorem plEd_l0 {o : List S25} {hs : List (List S25)} {n : Nat} (h2 : hs.length ≤ 2) (H : ∀ h ∈ hs, Geo.Loop (h.map tp)) (hl : (edgs (o :: hs)).length ≤ 1000)
    (hv : Geo.Ev (fun k => laws_FnPlateEdges.l1 k (edgs (o :: hs)) (edgs (o :: hs)) (n : Int) 0) true) : ∀ m i, i + m = hs.length → Geo.Ev (fun k => laws_FnPlateEdges.l0 k (edgs (o :: hs)) (edgs (o :: hs.take i)) (n : Int) (i : Int) o hs) true
  | 0, i, e => by
    refine Geo.Ev.step hv fun k => ?_
    rw [List.take_of_length_le (by omega), laws_FnPlateEdges.l0, if_neg (by omega), if_pos rfl]
  | m + 1, i, e => by
    have hi : i < hs.length := by omega
    have e1 : wrap64 ((i : Int) + 1) = ((i + 1 : Nat) : Int) := Geo.w64 (by omega) (by omega)
    have L := H hs[i] (List.getElem_mem hi)
    have ih := plEd_l0 h2 H hl hv m (i + 1) (by omega)
    have e2 : edgs (o :: hs.take i) ++ edg hs[i] = edgs (o :: hs.take (i + 1)) := by
      rw [← List.take_append_getElem hi, ← List.cons_append, edgs_app (o :: hs.take i)]; simp [edgs]
    have e3 : (edgs (o :: hs.take i)).length + (edg hs[i]).length ≤ (edgs (o :: hs)).length := by
      rw [← List.length_append, e2]
      conv => rhs; rw [← List.take_append_drop (i + 1) hs, ← List.cons_append, edgs_app, List.length_append]
      omega
    refine Geo.Ev.step ih fun k => ?_
    rw [laws_FnPlateEdges.l0, if_pos (by omega), if_pos (by omega), rd_L4_el hi, iLoopEdges_tells, if_pos (Geo.loopOk_of L), Option.bind_some, if_pos (by omega), e2, e1]
theorem hole_meet {o : List S25} {hs : List (List S25)} (H : Geo.Plate (o.map tp) (hs.map fun h => h.map tp)) {s t : S35} (hs_ : s ∈ edgs hs) (ht : t ∈ edg o) : Geo.meet (tp s.f0) (tp s.f1) (tp t.f0) (tp t.f1) = false := by
  obtain ⟨h, hh, hsh⟩ := List.mem_flatMap.1 hs_
  obtain ⟨a, _, a1, a2⟩ := mem_edg hsh
  obtain ⟨b, _, b1, b2⟩ := mem_edg ht
  have := (H.hole _ (List.mem_map_of_mem hh)).2.1.symm a b
  unfold Geo.meet
  rw [a1, a2, b1, b2, this]; simp
theorem FnPlateEdges (l0 : List Int) (hq : l0.length ≤ maxLen ∧ ∀ x ∈ l0, (Lit.int .u8 x).wf = true) : ∃ k, laws_FnPlateEdges.f k l0 = some true := by
  refine Geo.Ev.out ?_
  unfold laws_FnPlateEdges.f
  by_cases hl : (l0.length : Int) > 1048576
  · simp only [if_pos hl]; exact Geo.Ev.const rfl
  simp only [if_neg hl]
  obtain ⟨o, hs, e0, ⟨h7, h4, hg⟩⟩ := drawPlateEdges_tells hq.2
  refine Geo.Ev.bind e0 ?_
  simp only [iPlateEdges_tells, Option.bind_some]
  refine Geo.Ev.bind (sPlateEdges_tells o hs) ?_
  simp only [if_true]
  cases hok : Geo.plateOk (o.map tp) (hs.map fun h => h.map tp)
  · simp only [Bool.false_eq_true, if_false]
    exact Geo.Ev.step (Geo.Ev.const (o := some true) rfl) fun k => by rw [laws_FnPlateEdges.j0, if_pos (by simp)]; simp
  simp only [if_true]
  have H := (Geo.plateOk_iff _ _).1 hok
  have hl2 : hs.length ≤ 2 := by have := H.few; rwa [List.length_map] at this
  have HL : ∀ h ∈ hs, Geo.Loop (h.map tp) := fun h hh => (H.hole _ (List.mem_map_of_mem hh)).1
  have po := plate_len H.outer
  have len : (edgs (o :: hs)).length ≤ 1000 := by
    have := edgs_len (o :: hs) (fun l hm => by
      rcases List.mem_cons.1 hm with rfl | hm
      · exact (plate_len H.outer).2
      · exact (plate_len (HL l hm)).2)
    rw [List.length_cons] at this; omega
  have spl : edgs (o :: hs) = edg o ++ edgs hs := edgs_cons o hs
  have hn : (edg o).length ≤ (edgs (o :: hs)).length := by rw [spl, List.length_append]; omega
  have pos : 0 < (edgs (o :: hs)).length := by have := edg_len o; omega
  have hz : ((edgs (o :: hs)).length == 0) = false := by rw [beq_eq_false_iff_ne]; omega
  have hz' : (((edgs (o :: hs)).length : Int) == 0) = false := by rw [beq_eq_false_iff_ne]; omega
  refine Geo.Ev.step (g := fun k => laws_FnPlateEdges.l0 k (edgs (o :: hs)) (edgs (o :: hs.take 0)) ((edg o).length : Int) 0 o hs) ?_ fun k => by
    rw [laws_FnPlateEdges.j0, if_neg (by rw [hz']; decide), iLoopEdges_tells, if_pos (Geo.loopOk_of H.outer), Option.bind_some]; simp [edgs]
  refine plEd_l0 (n := (edg o).length) hl2 HL len (plEd_l1 len hn (fun i hi hni j hj => ?_) (edgs (o :: hs)).length 0 (by omega)) hs.length 0 (by omega)
  have mi : (edgs (o :: hs))[i] ∈ edgs hs := by
    have e : (edgs (o :: hs))[i] = (edgs hs)[i - (edg o).length]'(by have := congrArg List.length spl; rw [List.length_append] at this; omega) := by
      simp only [spl]
      exact List.getElem_append_right hni
    rw [e]; exact List.getElem_mem _
  have mj : (edgs (o :: hs))[j]'(Nat.lt_of_lt_of_le hj hn) ∈ edg o := by
    have e : (edgs (o :: hs))[j]'(Nat.lt_of_lt_of_le hj hn) = (edg o)[j] := by
      simp only [spl]
      exact List.getElem_append_left hj
    rw [e]; exact List.getElem_mem _
  exact hole_meet H mi mj
end Go.Proofs.Ytehkklmacglelaa.Pure
